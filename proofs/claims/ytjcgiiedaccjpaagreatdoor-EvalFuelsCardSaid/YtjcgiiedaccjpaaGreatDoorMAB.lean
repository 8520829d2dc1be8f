/- Parts. -/
import Derived.Laws.Sem
import Derived.MapKept
import Derived.Maps.RangeRun
import Derived.Laws.Cover3
import Derived.Deep.AppendSrc
import Derived.Test.YtjcgiiedaccjpaaGreatDoorMAA
set_option maxHeartbeats 16000000
namespace Go.Sx
open Go.RowKit Go.Lib
section
variable {C:Ctx}{σ:Sl}{η:List Ob}
theorem zGv{Q:Exit->Sl->List Ob->Prop}{c:Code}(id j:Nat)(mu:Bool)(e sz:Nat){k:Option Nat}{et:Option TypeId}{cs:List SV}(ho:η[id]?=some (.bx k et cs))(hj:cs[j]?=some .nil)(hro:Nat.ble C.ro η.length=true)
  (h:awp C c Q σ (η.set id (.bx k et (cs.set j (.buf η.length 0)))++[.buf mu e sz []])):awp C c Q σ η:=by
 intro R hR a w ⟨g,ha⟩
 refine h R hR a w ?_
 have hn:=ha.inv.n
 let g':Gh:={ g with blk:=upd g.blk g.n none,cap:=upd g.cap g.n 0,sz:=upd g.sz g.n sz,n:=g.n+1 }
 have hold:∀id,id<g.n->g'.blk id=g.blk id/\g'.cap id=g.cap id/\g'.sz id=g.sz id:=fun id hid=>by simp[g',upd,Nat.ne_of_lt hid]
 have hab:=ha.newOb (g':=g') (w':=w) (.buf mu e sz []) rfl rfl rfl (qAM _) (fun _ _=>rfl) rfl hold (fun id hid=>by
   have hne:id≠g.n:=by omega
   simp only[g',upd,if_neg hne]
   exact ha.inv.dead id (by omega)) (fun b hb=>by simp[g',upd]at hb) (fun _ _ h=>h) (fun _ _ h=>.inl h) ha.inv.st (by rw[hn];exact qAH hro)
  ⟨by simp[g',upd],by simp,by simp[g',upd],by simp,.inl ⟨by simp[g',upd],by simp[g',upd]⟩⟩
 have hidl:id<η.length:=(qAA.1 ho).1
 refine⟨g',{ hab with inv:={ hab.inv with n:=by simpa using hab.inv.n,ob:=fun i o hi=>?_ } }⟩
 rcases qAI i η.length with hil|hil
 ·rw[qAD (by simpa using hil),qAb]at hi
  split at hi
  ·rename_i hc;subst hc
   try rw[if_pos hidl]at hi
   injection hi with hi;subst hi
   obtain⟨b,e',us,h1,h2,h3,h4,h5,h6,h7⟩:=hab.inv.ob id (.bx k et cs) (by rw[qAD hidl];exact ho)
   refine⟨b,e',us,h1,h2,by simpa using h3,h4,fun m u s hu hs=>?_,h6,h7⟩
   rw[qAb]at hs
   split at hs
   ·rename_i hm;subst hm
    have hjl:=(qAA.1 hj).1
    try rw[if_pos hjl]at hs
    injection hs with hs;subst hs
    have h8:u=.slice none 0 0:=h5 j u _ hu hj
    refine⟨by show η.length<g.n+1;omega,?_⟩
    rw[h8,<-hn];simp[g',upd]
   ·exact h5 m u s hu hs
  ·exact hab.inv.ob i o (by rw[qAD hil];exact hi)
 ·rw[qAC (by simpa using hil)]at hi
  exact hab.inv.ob i o (by rw[qAC hil];simpa using hi)
end
def zJz(tmps:Array Value): ResultVar->Sem Value
 | .tmp t=>pure (tmps.getD t undef)
 | .cell a t=>do loadVar t (<-asAddr (tmps.getD a undef))
theorem zMT{P:Program}{w:World}{tmps:Array Value}: ∀(l:List ResultVar) (vs:List Value),l.length=vs.length->(∀(j:Nat) r v,l[j]?=some r->vs[j]?=some v->(zJz tmps r).run P w=.ok v w)->(l.mapM (zJz tmps)).run P w=.ok vs w
 |[],[],_,_=>rfl
 |r::l,v::vs,hl,h=>by
  have h0:=h 0 r v rfl rfl
  have ih:=zMT l vs (by simpa using hl) (fun j r v h1 h2=>h (j+1) r v (by simpa using h1) (by simpa using h2))
  rw[List.mapM_cons]
  simp only[Sem.run_bind,h0,Result.andThen_ok,ih,Sem.run_pure]
 |[],_::_,hl,_=>by simp at hl
 |_::_,[],hl,_=>by simp at hl
def tupV: List Value->Value
 |[v]=>v
 |vs=>.tuple vs.toArray
theorem zGr{P:Program}{w:World}{fn:Func}{tmps:Array Value}{l:List ResultVar}{vs:List Value}(hrs:fn.results=l.toArray)(hl:l.length=vs.length)(h:∀(j:Nat) r v,l[j]?=some r->vs[j]?=some v->(zJz tmps r).run P w=.ok v w): (results fn tmps).run P w=.ok (tupV vs) w:=by
 have h1:=zMT l vs hl h
 have e:results fn tmps=(do let vs <-fn.results.mapM (zJz tmps);pure (if h:vs.size=1 then vs[0]else .tuple vs)):=by
  unfold results;congr 2
 rw[e,hrs,Array.mapM_eq_mapM_toList]
 simp only[Sem.run_bind,Sem.run_map,h1,Sem.run_pure,Result.andThen_ok]
 match vs with
 |[]=>rfl
 |[v]=>rfl
 |v::u::r=>simp[tupV]
def CoV(η:List Ob): List SV->List D->Prop
 |[],[]=>True
 |s::ss,d::ds=>Co η s d/\CoV η ss ds
 |_,_=>False
theorem CoV.len{η:List Ob}: ∀{ss:List SV} {ds:List D},CoV η ss ds->ss.length=ds.length
 |[],[],_=>rfl
 |_::_,_::_,h=>by simp[CoV.len h.2]
 |[],_::_,h=>h.elim
 |_::_,[],h=>h.elim
theorem CoV.get{η:List Ob}: ∀{ss:List SV} {ds:List D},CoV η ss ds->∀(j:Nat) s d,ss[j]?=some s->ds[j]?=some d->Co η s d
 |s::ss,d::ds,h,0,s',d',h1,h2=>by simp at h1 h2;subst h1;subst h2;exact h.1
 |s::ss,d::ds,h,j+1,s',d',h1,h2=>CoV.get h.2 j s' d' (by simpa using h1) (by simpa using h2)
 |[],[],_,j,_,_,h1,_=>by simp at h1
 |[],_::_,h,_,_,_,_,_=>h.elim
 |_::_,[],h,_,_,_,_,_=>h.elim
theorem zSw{η:List Ob}: ∀{ss:List SV} {ds:List D},toDs ss=some ds->CoV η ss ds
 |[],ds,h=>by simp[toDs]at h;subst h;trivial
 |s::r,ds,h=>by
  cases s <;> simp only[toDs]at h
  all_goals first
   |(cases h;done)
   |(cases h2:toDs r with
     |none=>rw[h2]at h;cases h
     |some ds'=>rw[h2]at h;cases h;exact⟨by first|exact rfl|exact .inl rfl,zSw h2⟩)
def RVal(P:Program)(σ:Sl)(η:List Ob): ResultVar->D->Prop
 | .tmp r,d=>Co η (get σ r) d
 | .cell a t,d=>∃id o n kb et cs,get σ a=.ptr id o/\η[id]?=some (.bx kb et cs)/\
   ((zA9 P t=some (true,n)/\o+n<=cs.length/\∃ds,CoV η ((cs.drop o).take n) ds/\d=.agg ds)\/(zA9 P t=some (false,n)/\∃s,cs[o]?=some s/\Co η s d))
def RVals(P:Program)(σ:Sl)(η:List Ob): List ResultVar->List D->Prop
 |[],[]=>True
 |r::rs,d::ds=>RVal P σ η r d/\RVals P σ η rs ds
 |_,_=>False
def ResC(P:Program)(rs:Array ResultVar)(σ:Sl)(η:List Ob)(res:D): Prop :=
 match rs.toList,res with
 |[r],d=>RVal P σ η r d
 |l,.tup ds=>RVals P σ η l ds
 |_,_=>False
def zBN(P:Program)(rs:Array ResultVar)(res:D): Exit->Sl->List Ob->Prop
 | .ret,σ,η=>ResC P rs σ η res
 | .normal,σ,η=>ResC P rs σ η res
 |_,_,_=>False
theorem zB6{P:Program}{rs:Array ResultVar}{res:D}{σ:Sl}{η:List Ob}(h:ResC P rs σ η res): zBN P rs res .ret σ η:=h
section
variable {P:Program}{σ:Sl}{η:List Ob}
theorem zEH{r1 r2:ResultVar}{rs:List ResultVar}{ds:List D}(h:RVals P σ η (r1::r2::rs) ds): ResC P (r1::r2::rs).toArray σ η (.tup ds):=h
theorem zI1{r:ResultVar}{d:D}(h:RVals P σ η [r] [d]): ResC P [r].toArray σ η d:=h.1
theorem zEf: RVals P σ η [] []:=trivial
theorem RV_d{r:Nat}{d d':D}{rs:List ResultVar}{ds:List D}(h:get σ r=.d d')(h2:RVals P σ η rs ds)(e:d'=d): RVals P σ η (.tmp r::rs) (d::ds):=by
 subst e;exact⟨by show Co η (get σ r) _;rw[h];rfl,h2⟩
theorem RV_c{a t id o n:Nat}{kb:Option Nat}{et:Option TypeId}{cs:List SV}{ds':List D}{d:D}{rs:List ResultVar}{ds:List D}(h:get σ a=.ptr id o)(ho:η[id]?=some (.bx kb et cs))(ht:zA9 P t=some (true,n))(hl:Nat.ble (o+n) cs.length=true)(hs:toDs ((cs.drop o).take n)=some ds')(h2:RVals P σ η rs ds)(e:D.agg ds'=d): RVals P σ η (.cell a t::rs) (d::ds):=by
 subst e;exact⟨⟨id,o,n,kb,et,cs,h,ho,.inl ⟨ht,qAH hl,ds',zSw hs,rfl⟩⟩,h2⟩
end
theorem RVal.run{P:Program}{r:ResultVar}{σ:Sl}{η:List Ob}{d:D}{g:Gh}{w:World}{a:Act}{C:Ctx}(h:RVal P σ η r d)(ha:AbsG C g σ η a w): ∃v,(zJz a.tmps r).run P w=.ok v w/\RepD g.St w v d:=by
 cases r with
 |tmp r=>exact⟨_,rfl,Co.rep ha.inv (ha.rep r) h⟩
 |cell r t =>
  obtain⟨id,o,n,kb,et,cs,h0,ho,h⟩:=h
  have h1:=ha.rep r;rw[h0]at h1
  obtain⟨hid,b,hb,hv⟩:=h1
  obtain⟨b',e,us,h2,h3,h4,h5,h6,h7,_⟩:=ha.inv.ob id _ ho
  rw[hb]at h2;injection h2 with h2;subst h2
  rcases h with⟨ht,hl,ds,hs,rfl⟩|⟨ht,s,hs,hc⟩
  ·have hrun:=run_loadCells_list (P:=P) w ⟨b,o,none⟩ ((us.toList.drop o).take n) (fun j v hj=>by
    rw[qAX]at hj
    split at hj
    ·rw[Addr.add_lit,cell_of_row w b _ us e (0,0) h3]
     simpa using hj
    ·cases hj)
   have hlen:((us.toList.drop o).take n).length=n:=by rw[qAT,qAl,qAS];omega
   rw[hlen]at hrun
   have e1:=hs.len
   have hcl:((cs.drop o).take n).length=n:=by rw[qAT,qAl];omega
   refine⟨.agg ((us.toList.drop o).take n).toArray,?_,.agg _ _ (by omega) (fun u hm=>h5 u (Array.mem_toList_iff.1 (qA4 (qAq hm)))) (fun j u d hj hd=>?_)⟩
   ·simp only[zJz,hv,asAddr,loadVar,Sem.run_bind,Sem.run_pure,Result.andThen_ok,(zBk ht w).1,(zBk ht w).2,if_true,hrun]
   ·have hjl:j<n:=by
     have:=(qAA.1 hj).1;omega
    have hsj:((cs.drop o).take n)[j]?=some (((cs.drop o).take n)[j]'(by omega)):=qAB (by omega)
    refine Co.rep ha.inv (h6 (o+j) u _ ?_ ?_) (hs.get j _ d hsj hd)
    ·rw[qAX,if_pos hjl]at hj;simpa using hj
    ·rw[<-hsj,qAX,if_pos hjl];simp
  ·have hlt:o<us.size:=by rw[h4];exact(qAA.1 hs).1
   refine⟨us[o],?_,Co.rep ha.inv (h6 o _ _ (qAL hlt) hs) hc⟩
   have hcell:w.cell? ⟨b,o,none⟩=some us[o]:=by rw[cell_of_row w b o us e (0,0) h3];exact qAL hlt
   simp[zJz,hv,asAddr,loadVar,(zBk ht w).1,hcell]
theorem RVals.run{P:Program}{σ:Sl}{η:List Ob}{g:Gh}{w:World}{a:Act}{C:Ctx}(ha:AbsG C g σ η a w): ∀{rs:List ResultVar} {ds:List D},RVals P σ η rs ds->∃vs:List Value,rs.length=vs.length/\vs.length=ds.length/\(∀(j:Nat) r v,rs[j]?=some r->vs[j]?=some v->(zJz a.tmps r).run P w=.ok v w)/\∀(j:Nat) v d,vs[j]?=some v->ds[j]?=some d->RepD g.St w v d
 |[],[],_=>⟨[],rfl,rfl,fun j r v h=>by simp at h,fun j v d h=>by simp at h⟩
 |r::rs,d::ds,h=>by
  obtain⟨v,h1,h2⟩:=h.1.run ha
  obtain⟨vs,e1,e2,e3,e4⟩:=RVals.run ha h.2
  refine⟨v::vs,by simp[e1],by simp[e2],fun j r' v' hr hv=>?_,fun j v' d' hv hd=>?_⟩
  ·cases j with
   |zero=>simp at hr hv;subst hr;subst hv;exact h1
   |succ j=>exact e3 j r' v' (by simpa using hr) (by simpa using hv)
  ·cases j with
   |zero=>simp at hv hd;subst hv;subst hd;exact h2
   |succ j=>exact e4 j v' d' (by simpa using hv) (by simpa using hd)
 |[],_::_,h=>h.elim
 |_::_,[],h=>h.elim
theorem ResC.run{rs:Array ResultVar}{σ:Sl}{η:List Ob}{res:D}{P:Program}{fn:Func}{g:Gh}{w:World}{a:Act}{C:Ctx}(hrs:fn.results=rs)(h:ResC P rs σ η res)(ha:AbsG C g σ η a w): ∃v,(results fn a.tmps).run P w=.ok v w/\RepD g.St w v res:=by
 obtain⟨rl⟩:=rs
 unfold ResC at h
 split at h
 ·rename_i r hr
  simp at hr;subst hr
  obtain⟨v,h1,h2⟩:=h.run ha
  refine⟨v,zGr (l:=[r]) (vs:=[v]) hrs rfl (fun j r' v' hr hv=>?_),h2⟩
  cases j with
  |zero=>simp at hr hv;subst hr;subst hv;exact h1
  |succ j=>simp at hr
 ·rename_i ds hne
  obtain⟨vs,e1,e2,e3,e4⟩:=RVals.run ha h
  refine⟨tupV vs,zGr hrs e1 e3,?_⟩
  have e5:tupV vs=.tuple vs.toArray:=by
   match vs,rl with
   |[],_=>rfl
   |[v],[r]=>exact absurd rfl (hne r)
   |[v],[]=>simp at e1
   |[v],_::_::_=>simp at e1
   |v::u::r,_=>rfl
  rw[e5];exact .tup vs ds e2 e4
 ·exact h.elim
theorem zET{P:Program}{f:FuncId}{fn:Func}{c:Code}{ds:List D}{res:D}{N:Nat}{rs:Array ResultVar}(hf:P.funcs[f]?=some fn)(hb:fn.body=some c)(hN:fn.ntmps=N)(hrs:fn.results=rs)(hl:Nat.ble ds.length N=true)
  (h:∀(w0:World) (St0:Stab),awp ⟨P,N,w0,St0,fun _=>False,0⟩ c (zBN P rs res) (zNw ds 0) []):zAc P f ds res:=by
 intro St w vs hst hgl hrep
 subst hN
 have hl:=qAH hl
 have hlen:=hrep.len
 refine calls_of_wp hf hb (h w St _ ?_ _ _ ?_)
 ·intro e σ' η' a' w' hq ⟨g,ha⟩
  have fin:ResC P rs σ' η' res->a'.defers=[]/\∃v,(results fn a'.tmps).run P w' = .ok v w'/\∃v_1 St',Ending.returned v=.returned v_1/\RepD St' w' v_1 res/\Below w.heap.size w w'/\Keep St w St' w'/\
   (∀b o,St' b o->St b o\/w.heap.size<=b)/\(∀b o,St' b o->b<w'.heap.size):=by
   intro hq
   obtain⟨v,hr,hd⟩:=hq.run (P:=P) hrs ha
   refine⟨ha.defers,v,hr,v,g.St,rfl,hd,⟨ha.os,ha.tape,ha.output,ha.wsize,fun k hk=>ha.heap k hk (fun h=>h)⟩,ha.keep,fun b o hb=>?_,ha.inv.st⟩
   rcases ha.new b o hb with h1|h1|h1
   ·exact .inl h1
   ·exact .inr h1
   ·exact h1.elim
  cases e <;> first|exact fin hq|exact hq.elim
 ·refine⟨⟨St,fun _=>none,fun _=>0,fun _=>0,0⟩,rfl,?_,⟨rfl,fun _ _ h=>by simp at h,fun _ _=>rfl,fun _ _ _ h=>by simp at h,fun _ _ h=>by simp at h,hst,hgl⟩,rfl,rfl,rfl,qAM _,fun _ _ _=>rfl,Keep.refl St w,fun _ _ h=>.inl h,fun _ _ h=>by simp at h,?_⟩
  ·simp[hlen];omega
  ·refine zGH vs ds 0 _ hrep fun j v hj=>?_
   have hjl:j<vs.length:=(qAA.1 hj).1
   simp only[qAU,qAN]
   rw[qAf (by simpa using hjl)]
   simp[hj]
theorem zJ1{P:Program}{f:FuncId}{fn:Func}{c:Code}{as:List SV}{pre:List Ob}{res:D}{N:Nat}{rs:Array ResultVar}(hf:P.funcs[f]?=some fn)(hb:fn.body=some c)(hN:fn.ntmps=N)(hrs:fn.results=rs)(hl:Nat.ble as.length N=true)
  (h:∀(w0:World) (St0:Stab),awp ⟨P,N,w0,St0,fun _=>False,pre.length⟩ c (zBN P rs res) (zJx as 0) pre):zBI P f as pre res:=by
 intro g w vs hi hrep
 subst hN
 have hl:=qAH hl
 have hlen:=hrep.len
 refine calls_of_wp hf hb (h w g.St _ ?_ _ _ ?_)
 ·intro e σ' η' a' w' hq ⟨g',ha⟩
  have fin:ResC P rs σ' η' res->a'.defers=[]/\∃v,(results fn a'.tmps).run P w' = .ok v w'/\∃v_1 St',Ending.returned v=.returned v_1/\RepD St' w' v_1 res/\Below w.heap.size w w'/\Keep g.St w St' w'/\
   (∀b o,St' b o->g.St b o\/w.heap.size<=b)/\(∀b o,St' b o->b<w'.heap.size):=by
   intro hq
   obtain⟨v,hr,hd⟩:=hq.run (P:=P) hrs ha
   refine⟨ha.defers,v,hr,v,g'.St,rfl,hd,⟨ha.os,ha.tape,ha.output,ha.wsize,fun k hk=>ha.heap k hk (fun h=>h)⟩,ha.keep,fun b o hb=>?_,ha.inv.st⟩
   rcases ha.new b o hb with h1|h1|h1
   ·exact .inl h1
   ·exact .inr h1
   ·exact h1.elim
  cases e <;> first|exact fin hq|exact hq.elim
 ·refine⟨g,rfl,?_,hi,rfl,rfl,rfl,qAM _,fun _ _ _=>rfl,Keep.refl g.St w,fun _ _ h=>.inl h,fun i b hb hr=>?_,?_⟩
  ·simp[hlen];omega
  ·exfalso
   have h1:pre.length<=i:=hr
   have h2:=hi.dead i (by rw[hi.n];exact h1)
   rw[hb]at h2;cases h2
  ·refine zEy vs as 0 _ hrep fun j v hj=>?_
   have hjl:j<vs.length:=(qAA.1 hj).1
   simp only[qAU,qAN]
   rw[qAf (by simpa using hjl)]
   simp[hj]
section
variable {C:Ctx}{ops:Array Oper}{rest:List Oper}{K:Sl->List Ob->Prop}{σ:Sl}{η:List Ob}
end
end Go.Sx
namespace Go.Sx
open Go.RowKit
section
variable {κ:Type}[DecidableEq κ]
def zC6: List (κ×D)->κ->Option D
 |[],_=>none
 |(k,d)::r,a=>if k=a then some d else zC6 r a
def putK: List (κ×D)->κ->D->List (κ×D)
 |[],a,d=>[(a,d)]
 |(k,e)::r,a,d=>if k=a then(k,d)::r else(k,e)::putK r a d
def idxK: List (κ×D)->κ->Nat
 |[],_=>0
 |(k,_)::r,a=>if k=a then 0 else idxK r a+1
def kvs(enc:κ->Value)(L:List (κ×D)): List (Value×D):=L.map fun p=>(enc p.1,p.2)
omit [DecidableEq κ] in
theorem zHf{enc:κ->Value}{L:List (κ×D)}: (kvs enc L).length=L.length:=by simp[kvs]
omit [DecidableEq κ] in
theorem zGY{enc:κ->Value}{L:List (κ×D)}{j:Nat}: (kvs enc L)[j]?=(L[j]?).map fun p=>(enc p.1,p.2):=by simp[kvs]
theorem zDu: ∀{L:List (κ×D)} {a:κ} {d:D},zC6 L a=some d->L[idxK L a]?=some (a,d)/\∀e,putK L a e=L.set (idxK L a) (a,e)
 |[],_,_,h=>by cases h
 |(k,e)::r,a,d,h=>by
  unfold zC6 at h
  unfold idxK
  split at h
  ·rename_i hk
   injection h with h;subst h;subst hk
   exact⟨by simp,fun e'=>by simp[putK]⟩
  ·rename_i hk
   obtain⟨h1,h2⟩:=zDu h
   exact⟨by simp[hk,h1],fun e'=>by simp[putK,hk,h2]⟩
theorem zGX: ∀{L:List (κ×D)} {a:κ},zC6 L a=none->(∀p∈L,p.1≠a)/\(∀e,putK L a e=L++[(a,e)])/\idxK L a=L.length
 |[],_,_=>⟨by simp,fun e=>rfl,rfl⟩
 |(k,e)::r,a,h=>by
  unfold zC6 at h
  split at h
  ·cases h
  ·rename_i hk
   obtain⟨h1,h2,h3⟩:=zGX h
   exact⟨fun p hp=>by rcases qAs.1 hp with rfl|hp;exact hk;exact h1 p hp,fun e'=>by simp[putK,hk,h2],by simp[idxK,hk,h3]⟩
structure KeyOk(P:Program)(K:TypeId)(enc:κ->Value): Prop where
 ex:∃kind,P.underlying K=some kind/\(∀a,MapKept.IsKey kind (enc a))/\(∀a b,Instr.sameNow kind (enc a) (enc b)=some (decide (a=b)))/\∀a,Instr.sameBits 10000 (enc a) (enc a)=true
theorem zEW{kind:TypeDesc}{enc:κ->Value}(hs:∀a b,Instr.sameNow kind (enc a) (enc b)=some (decide (a=b)))(a:κ): ∀(es:List MapEntry) (L:List (κ×D)) (i:Nat),es.length=L.length->
  (∀(j:Nat) e p,es[j]?=some e->L[j]?=some p->e.key=enc p.1)->
  (zC6 L a=none/\Instr.findNow kind (enc a) es i=some none)\/∃e d,es[idxK L a]?=some e/\zC6 L a=some d/\Instr.findNow kind (enc a) es i=some (some (i+idxK L a,e.val))
 |[],[],i,_,_=>.inl ⟨rfl,rfl⟩
 |e::es,(k,d)::L,i,hl,h=>by
  have hk:=h 0 e (k,d) rfl rfl
  have h1:=hs a k
  simp only at hk
  unfold Instr.findNow
  rw[hk,h1]
  by_cases hc:k=a
  ·subst hc
   exact .inr ⟨e,d,by simp[idxK],by simp[zC6],by simp[idxK]⟩
  ·have hc':¬a=k:=fun e=>hc e.symm
   simp only[hc',decide_false]
   rcases zEW hs a es L (i+1) (by simpa using hl) (fun j e p he hp=>h (j+1) e p (by simpa using he) (by simpa using hp))with⟨h2,h3⟩|⟨e2,d2,h2,h3,h4⟩
   ·exact .inl ⟨by simp[zC6,hc,h2],h3⟩
   ·exact .inr ⟨e2,d2,by simp[idxK,hc,h2],by simp[zC6,hc,h3],by rw[h4];simp[idxK,hc];omega⟩
 |[],_::_,_,hl,_=>by simp at hl
 |_::_,[],_,hl,_=>by simp at hl
end
theorem zM0(a b:List UInt8): ((⟨a.toArray⟩:ByteArray) == ⟨b.toArray⟩)=decide (a=b):=by
 show (a.toArray==b.toArray)=decide (a=b)
 by_cases h:a=b
 ·subst h;simp
 ·simp[h]
theorem zEv{P:Program}{K:TypeId}(h:P.underlying K=some .string): KeyOk P K (fun l:List UInt8=>Value.string ⟨l.toArray⟩) :=
 ⟨_,h,fun _=>trivial,fun a b=>by simp only[Instr.sameNow,zM0],fun a=>by simp only[Instr.sameBits,zM0,decide_true]⟩
def zEM(P:Program)(t:TypeId): Option (TypeId×TypeId) :=
 match P.underlying t with
 |some (.map k e)=>some (k,e)
 |_=>none
theorem zCl{P:Program}{t k e:TypeId}(h:zEM P t=some (k,e)): P.underlying t=some (.map k e):=by
 unfold zEM at h
 split at h
 ·rename_i hu;simp only[Option.some.injEq,Prod.mk.injEq]at h;rw[hu,h.1,h.2]
 ·cases h
def zHK(P:Program)(e:TypeId): Option D :=
 match P.info? e with
 |some i=>match i.zero with
  |some z=>match z.oneCell' with
   |true=>some (zdv z)
   |false=>none
  |none=>none
 |none=>none
theorem zJk{P:Program}{e:TypeId}{zd:D}(h:zHK P e=some zd): ∃z,(∀w,(zeroValue e).run P w=.ok z w)/\∀St w,RepD St w z zd:=by
 unfold zHK at h
 split at h
 ·rename_i i hi
  split at h
  ·rename_i z hz
   split at h
   ·injection h with h;subst h
    exact⟨z,fun w=>by simp[zeroValue,typeInfo,hi,hz],fun St w=>zGO St w z⟩
   ·cases h
  ·cases h
 ·cases h
section
variable {P:Program}{η:List Ob}{σ:Sl}{dst:Option Nat}{ty:TypeId}{pos:String}{after:Array Edge}{gd:Option (Nat×Bool)}{t:TypeId}{x y:Operand}{κ:Type}[DecidableEq κ]{enc:κ->Value}
theorem zGK{i:Nat}(h:oval σ x=.mp i): Ylds P η σ ⟨dst,.move x,ty,pos,after,gd⟩ (.mp i):=zFC (.inl rfl) h
theorem zLu{i:Nat}(h:oval σ x=.mp i): Ylds P η σ ⟨dst,.assign x,ty,pos,after,gd⟩ (.mp i):=zFC (.inr rfl) h
theorem zQ9{g:Gh}{w:World}{id:Nat}{kb:Option Nat}{l:List (Value×D)}: ObOk g w id (.map kb l)↔∃b es,g.blk id=some b/\w.heap[b]?=some (.map es l.length)/\es.size=l.length/\
  (∀(j:Nat) (e:MapEntry) (p:Value×D),es[j]?=some e->l[j]?=some p->e.born=j/\e.key=p.1/\RepD g.St w e.val p.2)/\(∀o,¬g.St b o)/\∀c,kb=some c->c=b:=by
 constructor
 ·rintro⟨b,es,ck,h1,h2,h3,h4,h5,h6,h7⟩
  obtain⟨rfl,h8⟩:=h7 rfl
  exact⟨b,es,h1,h2,h3,fun j e p he hp=>⟨h8 j e he,h4 j e p he hp⟩,h5,h6⟩
 ·rintro⟨b,es,h1,h2,h3,h4,h5,h6⟩
  refine⟨b,es,_,h1,h2,h3,fun j e p he hp=>(h4 j e p he hp).2,h5,h6,fun _=>⟨rfl,fun j e he=>?_⟩⟩
  have hj:j<l.length:=by rw[<-h3];exact(qAg.1 he).1
  exact(h4 j e _ he (qAB hj)).1
omit [DecidableEq κ] in
theorem zSY{g:Gh}{w:World}{id:Nat}{kb:Option Nat}{L:List (κ×D)}(h:ObOk g w id (.map kb (kvs enc L))): ∃b es,g.blk id=some b/\w.heap[b]?=some (.map es L.length)/\es.toList.length=L.length/\
  (∀(j:Nat) e p,es.toList[j]?=some e->L[j]?=some p->e.key=enc p.1)/\(∀(j:Nat) e p,es.toList[j]?=some e->L[j]?=some p->e.born=j/\RepD g.St w e.val p.2)/\∀o,¬g.St b o:=by
 obtain⟨b,es,h1,h2,h3,h4,h5,_⟩:=zQ9.1 h
 rw[zHf]at h2 h3
 refine⟨b,es,h1,h2,by simpa using h3,fun j e p he hp=>?_,fun j e p he hp=>?_,h5⟩
 ·exact(h4 j e (enc p.1,p.2) (by simpa using he) (by rw[zGY,hp];rfl)).2.1
 ·have:=h4 j e (enc p.1,p.2) (by simpa using he) (by rw[zGY,hp];rfl);exact⟨this.1,this.2.2⟩
theorem zRF{g:Gh}{w:World}{id k e:Nat}{kb:Option Nat}{L:List (κ×D)}{zd:D}(h:ObOk g w id (.map kb (kvs enc L)))(ht:zEM P t=some (k,e))(hk:KeyOk P k enc)(hz:zHK P e=some zd)(a:κ)(c:Bool):
  ∃b v,g.blk id=some b/\(Instr.lookup t (.map (some b)) (enc a) c).run P w=.ok (if c then .tuple #[v,.bool (zC6 L a).isSome]else v) w/\RepD g.St w v ((zC6 L a).getD zd):=by
 obtain⟨b,es,h1,h2,h3,h4,h5,_⟩:=zSY h
 obtain⟨kind,k1,k2,k3,k4⟩:=hk.ex
 obtain⟨z,z1,z2⟩:=zJk hz
 have hck:=MapKept.run_checkKey (w:=w) k1 (k2 a) es.isEmpty 9999
 rcases zEW k3 a es.toList L 0 h3 h4 with⟨f1,f2⟩|⟨e0,d0,f1,f2,f3⟩
 ·refine⟨b,z,h1,?_,by rw[f1];exact z2 _ _⟩
  simp only[Instr.lookup,Sem.run_bind,run_underlying (zCl ht),MapKept.run_getObj_map h2,hck,MapKept.run_findKey k1 f2,z1,f1,Result.andThen,Sem.run_pure]
  cases c <;> rfl
 ·have hp:=(zDu f2).1
  refine⟨b,e0.val,h1,?_,by rw[f2];exact(h5 _ _ _ f1 hp).2⟩
  simp only[Instr.lookup,Sem.run_bind,run_underlying (zCl ht),MapKept.run_getObj_map h2,hck,MapKept.run_findKey k1 f3,f2,Result.andThen,Sem.run_pure]
  cases c <;> rfl
theorem zQc{id k e:Nat}{kb:Option Nat}{L:List (κ×D)}{a:κ}{zd:D}(hx:oval σ x=.mp id)(ho:η[id]?=some (.map kb (kvs enc L)))(hy:oval σ y=.d (.val (enc a)))(ht:zEM P t=some (k,e))(hk:KeyOk P k enc)(hz:zHK P e=some zd):
  Ylds P η σ ⟨dst,.lookup t x y true,ty,pos,after,gd⟩ (.d (.tup [(zC6 L a).getD zd,.val (.bool (zC6 L a).isSome)])):=by
 refine Ylds.same fun g w ac hi h=>?_
 have h1:=h x (by simp[Op.operands]);rw[hx]at h1
 have h2:=h y (by simp[Op.operands]);rw[hy]at h2
 obtain⟨_,b,hb,hv⟩:=h1
 obtain⟨b',v,hb',hr,hd⟩:=zRF (hi.ob id _ ho) ht hk hz a true
 rw[hb]at hb';injection hb' with hb';subst hb'
 refine⟨.tuple #[v,.bool (zC6 L a).isSome],by simp only[execOp,hv,RepD.val_eq h2,Sem.run_bind,hr];rfl,.tup [_,_] _ rfl fun j u d hu hd'=>?_⟩
 match j with
 |0=>simp at hu hd';subst hu;subst hd';exact hd
 |1=>simp at hu hd';subst hu;subst hd';exact .val _
 |j+2=>simp at hu
theorem zQb{id k e:Nat}{kb:Option Nat}{L:List (List UInt8×D)}{a:List UInt8}{zd:D}(hx:oval σ x=.mp id)(ho:η[id]?=some (.map kb (kvs (fun l=>.string ⟨l.toArray⟩) L)))(hy:oval σ y=.d (str a))(ht:zEM P t=some (k,e))(hk:P.underlying k=some .string)(hz:zHK P e=some zd):
  Ylds P η σ ⟨dst,.lookup t x y true,ty,pos,after,gd⟩ (.d (.tup [(zC6 L a).getD zd,.val (.bool (zC6 L a).isSome)])):=zQc hx ho hy ht (zEv hk) hz
end
section
variable {C:Ctx}{ops:Array Oper}{rest:List Oper}{K:Sl->List Ob->Prop}{σ:Sl}{η:List Ob}{d:Nat}{ty:TypeId}{pos:String}{after:Array Edge}{gd:Option (Nat×Bool)}{t:TypeId}{x y z:Operand}
theorem AbsG.setObj{g:Gh}{a:Act}{w w':World}(h:AbsG C g σ η a w){id b:Nat}{o:Ob}(hidl:id<η.length)(hb:g.blk id=some b)(hro:C.ro<=id)(hst:∀o,¬g.St b o)
  (os:w'.os=w.os) (tape:w'.tape=w.tape) (output:w'.output=w.output) (hsz:w'.heap.size=w.heap.size) (hoth:∀k,k≠b->w'.heap[k]?=w.heap[k]?)
  (ok:Keep g.St w g.St w'->ObOk g w' id o):AbsG C g σ (η.set id o) a w':=by
 have kp:Keep g.St w g.St w':=⟨fun _ _ h=>h,fun c o u hc hu=>(World.cell?_of_block (a:=⟨c,o,none⟩) (hoth c (fun e=>hst o (e▸hc)))).trans hu,fun c hc=>hoth c (fun e=>hst 0 (e▸hc 0))⟩
 have rk:∀{v:Value} {s':SV},RepS g w v s'->RepS g w' v s':=fun r=>r.ext kp (fun _ _=>⟨rfl,rfl,rfl⟩) (qAM _)
 refine⟨h.defers,h.size,⟨by rw[qAo];exact h.inv.n,fun i c hc=>by rw[hsz];exact h.inv.lt i c hc,h.inv.dead,h.inv.inj,fun i o' ho=>?_,fun c o hc=>by rw[hsz];exact h.inv.st c o hc,h.inv.gl.keep kp⟩,os.trans h.os,tape.trans h.tape,output.trans h.output,by rw[hsz];exact h.wsize,
  fun k hk hx=>?_,h.keep.trans kp,h.new,h.own,fun t=>rk (h.rep t)⟩
 ·rw[qAb]at ho
  split at ho
  ·rename_i hc;subst hc
   try rw[if_pos hidl]at ho
   injection ho with ho;subst ho
   exact ok kp
  ·rename_i hc
   refine(h.inv.ob i o' ho).ext kp (fun _ _=>⟨rfl,rfl,rfl⟩) (qAM _) (by rw[h.inv.n];exact(qAA.1 ho).1) (fun c hcb=>⟨hoth c (fun e=>?_),fun _=>Iff.rfl⟩)
   subst e
   exact hc (h.inv.inj id i c hb hcb)
 ·rw[hoth k (fun e=>?_)]
  ·exact h.heap k hk hx
  ·subst e
   rcases h.own id k hb hro with h2|h2
   ·omega
   ·exact hx h2
theorem AbsG.allocOb{g:Gh}{a:Act}{w:World}(ha:AbsG C g σ η a w)(ob:Obj)(o:Ob)(s:SV)(v:Value)(hd:Nat.blt d C.N=true)(hro:C.ro<=η.length)
  (ok:∀g':Gh,g'.n=g.n+1->g'.blk g.n=some w.heap.size->(∀id,id<g.n->g'.blk id=g.blk id)->g'.St=g.St->(∀o,¬g'.St w.heap.size o)->ObOk g' (w.alloc ob) g.n o/\RepS g' (w.alloc ob) v s) :
  Abs C ((d,s)::σ) (η++[o]) (a.put (some d) v) (w.alloc ob):=by
 have hn:=ha.inv.n
 let g':Gh:={ g with blk:=upd g.blk g.n (some w.heap.size),n:=g.n+1 }
 have hold:∀id,id<g.n->g'.blk id=g.blk id/\g'.cap id=g.cap id/\g'.sz id=g.sz id:=fun id hid=>⟨by simp[g',upd,Nat.ne_of_lt hid],rfl,rfl⟩
 have hbn:g'.blk g.n=some w.heap.size:=by simp[g',upd]
 obtain⟨ok1,ok2⟩:=ok g' rfl hbn (fun id hid=>(hold id hid).1) rfl (fun o ho=>absurd (ha.inv.st _ o ho) (by omega))
 have hab:=ha.newOb (g':=g') (w':=w.alloc ob) o rfl rfl rfl (by simp) (fun k hk=>Below.heap_alloc w _ k hk) rfl hold
  (fun id hid=>by
   have hne:id≠g.n:=by omega
   simp only[g',upd,if_neg hne]
   exact ha.inv.dead id (by omega)) (fun b hb=>by rw[hbn]at hb;injection hb with hb;subst hb;simp) (fun _ _ h=>h) (fun _ _ h=>.inl h) (fun b o hb=>qAV (ha.inv.st b o hb) (by simp)) (by rw[hn];exact hro) ok1
 exact⟨g',hab.put (d:=some d) hd ok2⟩
theorem zVG{g:Gh}{a:Act}{w:World}(ha:AbsG C g σ η a w)(hd:Nat.blt d C.N=true)(hro:C.ro<=η.length):
  Abs C ((d,.mp η.length)::σ) (η++[.map none []]) (a.put (some d) (.map (some w.heap.size))) (w.alloc (.map #[] 0)) :=
 ha.allocOb _ _ _ _ hd hro fun g' hn hb _ _ hst=>⟨zQ9.2 ⟨w.heap.size, #[],hb,_root_.Go.heap_alloc_new w _,rfl,fun j e p he=>by simp at he,hst,fun _ h=>(by cases h)⟩,by show η.length<g'.n;rw[hn,ha.inv.n];omega,w.heap.size,by rw[<-ha.inv.n];exact hb,rfl⟩
theorem zSJ{κ:Type}(enc:κ->Value)(hd:Nat.blt d C.N=true)(hro:Nat.ble C.ro η.length=true)(h:alex C false ops rest K ((d,.mp η.length)::σ) (η++[.map none (kvs enc [])])):
  zA3 C false ops ⟨some d,.makeMap t none,ty,pos,after,gd⟩ rest K σ η :=
 zG3 (fun _ _ _ ha=>⟨_,_,rfl,zVG ha hd (qAH hro)⟩) h
theorem zQV{k e:Nat}(_ht:zEM C.P t=some (k,e))(_hk:C.P.underlying k=some .string)(hd:Nat.blt d C.N=true)(hro:Nat.ble C.ro η.length=true)(h:alex C false ops rest K ((d,.mp η.length)::σ) (η++[.map none (kvs (fun l:List UInt8=>.string ⟨l.toArray⟩) [])])):
  zA3 C false ops ⟨some d,.makeMap t none,ty,pos,after,gd⟩ rest K σ η:=zSJ _ hd hro h
section
variable {κ:Type}[DecidableEq κ]{enc:κ->Value}
omit [DecidableEq κ] in
theorem AbsG.setMap{g:Gh}{a:Act}{w:World}(ha:AbsG C g σ η a w){id b:Nat}{kb:Option Nat}{L L':List (κ×D)}{es':Array MapEntry}(ho:η[id]?=some (.map kb (kvs enc L)))(hb:g.blk id=some b)(hro:C.ro<=id)
  (hsz:es'.size=L'.length) (hes:∀(j:Nat) e p,es'[j]?=some e->L'[j]?=some p->e.born=j/\e.key=enc p.1/\RepD g.St w e.val p.2) :
  AbsG C g σ (η.set id (.map kb (kvs enc L'))) a { w with heap:=w.heap.setIfInBounds b (.map es' L'.length) }:=by
 obtain⟨b',es,h1,h2,h3,h4,h5,h6⟩:=zQ9.1 (ha.inv.ob id _ ho)
 rw[hb]at h1;injection h1 with h1;subst h1
 have hbl:=ha.inv.lt id b hb
 refine ha.setObj (qAA.1 ho).1 hb hro h5 rfl rfl rfl (by simp) (fun k hk=>by simp[Array.getElem?_setIfInBounds_ne (fun e=>hk e.symm)]) fun kp=>zQ9.2 ⟨b,es',hb,by rw[zHf];simp[hbl],by rw[zHf];exact hsz,fun j e p he hp=>?_,h5,h6⟩
 rw[zGY]at hp
 cases hq:L'[j]? with
 |none=>simp[hq]at hp
 |some p0 =>
  simp[hq]at hp;subst hp
  obtain⟨q1,q2,q3⟩:=hes j e p0 he hq
  exact⟨q1,q2,q3.keep kp⟩
theorem zJ0{P:Program}{w:World}{v:Value}(h:Instr.sameBits 10000 v v=true): (Instr.keyThatStays v v).run P w=.ok v w:=by
 simp[Instr.keyThatStays,h]
theorem zFm{id k e:Nat}{kb:Option Nat}{L:List (κ×D)}{a:κ}{dv:D}(hx:oval σ x=.mp id)(ho:η[id]?=some (.map kb (kvs enc L)))(hy:oval σ y=.d (.val (enc a)))(hz:Co η (oval σ z) dv)(ht:zEM C.P t=some (k,e))(hk:KeyOk C.P k enc)(hro:Nat.ble C.ro id=true)
  (h:alex C false ops rest K σ (η.set id (.map kb (kvs enc (putK L a dv))))):zA3 C false ops ⟨none,.mapUpdate t x y z,ty,pos,after,gd⟩ rest K σ η:=by
 refine zMj (fun g ac w ha=>?_) h
 have h1:=ha.eval x;rw[hx]at h1
 have h2:=ha.eval y;rw[hy]at h2
 have hzr:=hz.rep ha.inv (ha.eval z)
 obtain⟨_,b,hb,hv⟩:=h1
 obtain⟨b',es,m1,m2,m3,m4,m5,m6⟩:=zSY (ha.inv.ob id _ ho)
 rw[hb]at m1;injection m1 with m1;subst m1
 obtain⟨kind,k1,k2,k3,k4⟩:=hk.ex
 have hck:=MapKept.run_checkKey (w:=w) k1 (k2 a) false 9999
 have m3':es.size=L.length:=by simpa using m3
 rcases zEW k3 a es.toList L 0 m3 m4 with⟨f1,f2⟩|⟨e0,d0,f1,f2,f3⟩
 ·obtain⟨q1,q2,q3⟩:=zGX f1
  have hset:=ha.setMap (L':=L++[(a,dv)]) (es':=es.push { key:=enc a,val:=ac.eval z,born:=L.length }) ho hb (qAH hro) (by simp[m3']) (fun j e p he hp=>by
   rw[Array.getElem?_push]at he
   split at he
   ·rename_i hj
    injection he with he;subst he
    rw[hj,m3',qAC (qAM _)]at hp
    simp at hp;subst hp
    exact⟨hj.trans m3' |>.symm,rfl,hzr⟩
   ·rename_i hj
    have hjl:j<L.length:=by have:=(qAg.1 he).1;omega
    rw[qAD hjl]at hp
    have he':es.toList[j]?=some e:=by simpa using he
    exact⟨(m5 j e p he' hp).1,m4 j e p he' hp,(m5 j e p he' hp).2⟩)
  refine⟨_,?_,g,by rw[q2];exact hset⟩
  rw[qAO]
  simp only[execOp,hv,RepD.val_eq h2,Sem.run_bind,Instr.mapUpdate,run_underlying (zCl ht),MapKept.run_getObj_map m2,hck,MapKept.run_findKey k1 f2,MapKept.run_setObj_map _ m2,Result.andThen,Sem.run_pure]
  rfl
 ·obtain⟨q1,q2⟩:=zDu f2
  have hil:idxK L a<L.length:=(qAA.1 q1).1
  have hkey:e0.key=enc a:=m4 _ _ _ f1 q1
  have f1':es[idxK L a]?=some e0:=by simpa using f1
  have hset:=ha.setMap (L':=L.set (idxK L a) (a,dv)) (es':=es.modify (idxK L a) fun e=>{ e with key:=enc a,val:=ac.eval z }) ho hb (qAH hro) (by simp[m3']) (fun j e p he hp=>by
   rw[Array.getElem?_modify]at he
   rw[qAb]at hp
   split at he
   ·rename_i hj
    subst hj
    rw[if_pos rfl,if_pos hil]at hp
    rw[f1']at he
    simp at he hp;subst he;subst hp
    exact⟨(m5 _ _ _ f1 q1).1,rfl,hzr⟩
   ·rename_i hj
    rw[if_neg hj]at hp
    have he':es.toList[j]?=some e:=by simpa using he
    exact⟨(m5 j e p he' hp).1,m4 j e p he' hp,(m5 j e p he' hp).2⟩)
  refine⟨_,?_,g,by rw[q2];exact hset⟩
  rw[qAo]
  rw[qAU]at f3
  have hst:(Instr.keyThatStays (((es[idxK L a]?).map (·.key)).getD (enc a)) (enc a)).run C.P w=.ok (enc a) w:=by
   rw[f1'];simp only[qAy,qBP,hkey];exact zJ0 (k4 a)
  simp only[execOp,hv,RepD.val_eq h2,Sem.run_bind,Instr.mapUpdate,run_underlying (zCl ht),MapKept.run_getObj_map m2,hck,MapKept.run_findKey k1 f3,hst,MapKept.run_setObj_map _ m2,Result.andThen,Sem.run_pure]
end
end
end Go.Sx
namespace Go.Sx
open Go.RowKit
def zQl(l:List Oper)(f:Nat->Bool): Prop:=∀j o,l[j]?=some o->f j=true->∀e∈o.after,Region.binds .any e=true->f e.on=true
def Deps(o:Oper)(f:Nat->Bool): Prop:=∀e∈o.after,Region.binds .any e=true->f e.on=true
theorem zOC{C:Ctx}{l:List Oper}{Q:Exit->Act->World->Prop}{K:Sl->List Ob->Prop}(hQ:∀σ' η' a w,K σ' η'->Abs C σ' η' a w->Q .normal a w)(hB:zEt l=true)
  (m:Nat) (hm:m<=l.length) (hbar:m=l.length\/zGj l.toArray (l.length-m-1)=true) (I:(Nat->Bool)->Act->World->Prop)
  (hfin:∀f a w,(∀j,j<m->f j=true)->I f a w->∃σ η,zBL C l.toArray (l.drop m) K σ η/\Abs C σ η a w)
  (hstep:∀f j o a w,j<m->l[j]?=some o->f j=false->zQl l f->Deps o f->I f a w->
   (Region.wanted o (yielded l.toArray a.tmps)=true/\o.wp C.P a w (I (fun i=>i==j||f i)) Q)\/(Region.wanted o (yielded l.toArray a.tmps)=false/\I (fun i=>i==j||f i) (a.put o.dst undef) w)) :
  ∀(fuel:Nat) (listed:Array Bool) (a:Act) (w:World),listed.size=l.length->(listed.toList.filter (! ·)).length<=fuel->
   (∀j o,l[j]?=some o->listed.getD j true=true->∀e∈o.after,Region.binds .any e=true->listed.getD e.on true=true)->
   (∀i,m<=i->i<l.length->listed.getD i true=false)->I (fun i=>listed.getD i true) a w->wpAny C.P .any l.toArray Q fuel listed a w:=by
 have spec:=zD7 hB
 intro fuel
 induction fuel with
 |zero =>
  intro listed a w hsz hc hcl hno hI
  by_cases hall:∀j,j<m->listed.getD j true=true
  ·obtain⟨σ,η,h1,h2⟩:=hfin _ a w hall hI
   exact zK9 hQ hB (l.length-m) m σ η (by omega) h1 0 listed a w hsz hc hcl hall hno h2
  ·exfalso
   apply hall
   intro j hj
   cases hq:listed.getD j true with
   |true=>rfl
   |false =>
    exfalso
    have hxl:j<listed.size:=by omega
    have:false∈listed.toList.filter (! ·):=by
     rw[List.mem_filter]
     refine⟨?_,rfl⟩
     rw[qAN,qAL hxl]at hq
     simp at hq
     rw[<-hq];exact Array.mem_toList_iff.2 (Array.getElem_mem hxl)
    have:=List.length_pos_of_mem this
    omega
 |succ fuel ih =>
  intro listed a w hsz hc hcl hno hI
  by_cases hall:∀j,j<m->listed.getD j true=true
  ·obtain⟨σ,η,h1,h2⟩:=hfin _ a w hall hI
   exact zK9 hQ hB (l.length-m) m σ η (by omega) h1 (fuel+1) listed a w hsz hc hcl hall hno h2
  ·refine⟨fun hr=>?_,fun j hj=>?_⟩
   ·exfalso
    apply hall
    intro j hj
    exact zKf hB listed hsz hr j (by omega)
   ·obtain⟨hun,oj,hoj,hdep⟩:=mem_ready.1 hj
    have hlj:l[j]?=some oj:=by simpa using hoj
    have hjl:j<l.length:=(qAA.1 hlj).1
    have hall':∀e∈oj.after,Region.binds .any e=true->listed.getD e.on true=true:=by
     intro e he hb
     have hlt:=(spec j oj hlj).2.1 e he hb
     rw[zKO (by omega)];exact hdep e he hb
    have hjm:j<m:=by
     rcases qAI j m with h|h
     ·exact h
     ·exfalso
      apply hall
      intro i hi
      rcases hbar with hb|hb
      ·omega
      ·have hml:m<l.length:=by omega
       have hcl':∀j o,l.toArray[j]?=some o->listed.getD j true=true->∀e∈o.after,Region.binds .any e=true->listed.getD e.on true=true:=fun j o ho=>hcl j o (by simpa using ho)
       simp only[zGj,qAP]at hb
       obtain⟨⟨_,hb1⟩,hb2⟩:=hb
       have hk1:l.toArray.size-1-(l.length-m-1)=m:=by rw[qBD];omega
       rw[hk1]at hb1
       have hlm:l.toArray[m]?=some l[m]:=by simp[hml]
       rcases qAI m j with hmj|hmj
       ·exfalso
        have hk2:l.toArray.size-(l.length-m-1)+(j-m-1)=j:=by rw[qBD];omega
        have:=qAF.1 hb2 (j-m-1) (qBL.2 (by omega))
        rw[hk1,hk2]at this
        have:=zB5 (f:=fun i=>listed.getD i true) hcl' l.toArray.size j oj hoj hall' this
        rw[hno m (qAM _) hml]at this;cases this
       ·have hmj:j=m:=by omega
        subst hmj
        exact zB5 (f:=fun i=>listed.getD i true) hcl' l.toArray.size j oj hoj hall' (qAF.1 hb1 i (qBL.2 hi))
    have cnt:((listed.setIfInBounds j true).toList.filter (! ·)).length<=fuel:=by
     have hjs:j<listed.size:=by omega
     have h0:listed[j]=false:=by
      rw[qAN,qAL hjs]at hun;simpa using hun
     have e1:listed.toList=listed.toList.take j++false::listed.toList.drop (j+1):=by
      conv=>lhs;rw[<-qAj j listed.toList]
      congr 1
      rw[qAZ (by simpa using hjs)]
      congr 1
     have e2:(listed.setIfInBounds j true).toList=listed.toList.take j++true::listed.toList.drop (j+1):=by
      rw[Array.toList_setIfInBounds,List.set_eq_take_append_cons_drop,if_pos (by simpa using hjs)]
     rw[e1]at hc
     rw[e2]
     simp only[List.filter_append,qAO,qBR,Bool.not_false,if_true,qAJ,Bool.not_true,qBU,if_false]at hc ⊢
     omega
    have pre':∀i o,l[i]?=some o->(listed.setIfInBounds j true).getD i true=true->∀e∈o.after,Region.binds .any e=true->(listed.setIfInBounds j true).getD e.on true=true:=by
     intro i o hi hli e he hb
     rw[setB listed j _ (by omega)]at hli ⊢
     by_cases hij:i=j
     ·subst hij
      rw[hlj]at hi;injection hi with hi;subst hi
      rw[hall' e he hb];simp
     ·have hbe:(i==j)=false:=by simpa using hij
      rw[hbe,qBW]at hli
      rw[hcl i o hi hli e he hb];simp
    have no':∀i,m<=i->i<l.length->(listed.setIfInBounds j true).getD i true=false:=fun i h1 h2=>by
     rw[setB listed j i (by omega),hno i h1 h2]
     have:(i==j)=false:=by simp;omega
     rw[this];rfl
    have next:∀a' w',I (fun i=>i==j||listed.getD i true) a' w'->wpAny C.P .any l.toArray Q fuel (listed.setIfInBounds j true) a' w':=fun a' w' hI'=>by
     refine ih _ a' w' (by simpa using hsz) cnt pre' no' ?_
     have:(fun i=>(listed.setIfInBounds j true).getD i true)=fun i=>i==j||listed.getD i true:=by funext i;exact setB listed j i (by omega)
     rw[this];exact hI'
    unfold wpOp
    simp only[hoj]
    rcases hstep _ j oj a w hjm hlj hun hcl hall' hI with⟨h1,h2⟩|⟨h1,h2⟩
    ·rw[if_pos h1]
     exact .inl (Oper.wp_mono next h2)
    ·rw[if_neg (by rw[h1];simp)]
     exact next _ _ h2
theorem zI4{l:List Oper}(hB:zEt l=true){σ:Sl}{ss:List SV}{f:Nat->Bool}{j:Nat}{oj:Oper}(hlj:l[j]?=some oj)(hun:f j=false)(hcl:zQl l f)(hd:Deps oj f): ∀t,t∈oj.looksAt l.toArray->get (pst σ 0 l ss f) t=get (pst σ 0 l ss (fun i=>decide (i<j))) t:=by
 have spec:=zD7 hB
 intro t ht
 refine zB9 t l ss σ σ 0 _ _ rfl (fun i o hi hne=>?_)
 rw[qAU]at hne
 rcases qBI i j with h|h|h
 ·have hni:f i=false:=by
   cases hc':f i with
   |false=>rfl
   |true=>exfalso;simp[hc',h]at hne
  rcases(spec j oj hlj).2.2 i o h hi with⟨e,he,hb,hon⟩|hap
  ·have:=hd e he hb
   rw[hon,hni]at this;cases this
  ·intro hdt;exact(Oper.apart_spec hap).1 t hdt ht
 ·exfalso;subst h;simp[hun]at hne
 ·have hli:f i=true:=by
   cases hc':f i with
   |true=>rfl
   |false =>
    exfalso
    have hdd:decide (i<j)=false:=by simp;omega
    simp only[hc',hdd]at hne
    exact hne rfl
  rcases(spec i o hi).2.2 j oj h hlj with⟨e,he,hb,hon⟩|hap
  ·have:=hcl i o hi hli e he hb
   rw[hon,hun]at this;cases this
  ·intro hdt;exact(Oper.apart_spec hap).2.2 t hdt ht
theorem zI5{l:List Oper}(hB:zEt l=true){σ:Sl}{ss:List SV}{f:Nat->Bool}{j:Nat}{oj:Oper}{sj:SV}(hlj:l[j]?=some oj)(hs:ss[j]?=some sj)(hun:f j=false)(hcl:zQl l f): ∀t,get (put (pst σ 0 l ss f) oj.dst sj) t=get (pst σ 0 l ss (fun i=>i==j||f i)) t:=by
 have spec:=zD7 hB
 intro t
 have h1:=zMJ t j l ss σ 0 f oj sj hlj hs (by rw[qAU];exact hun) (fun i o hi hlt' hfi=>by
  rw[qAU]at hfi
  rcases(spec i o hi).2.2 j oj (by omega) hlj with⟨e,he,hb,hon⟩|hap
  ·have:=hcl i o hi hfi e he hb
   rw[hon,hun]at this;cases this
  ·cases hdd:oj.dst with
   |none=>exact .inr rfl
   |some d=>exact .inl ((Oper.apart_spec hap).2.1 d hdd))
 rw[h1,qAU]
def Fresh(C:Ctx)(g:Gh)(w:World)(v:Value)(cs:List SV)(t:TypeId): Prop :=
 ∃b us,v=.pointer (some ⟨b,0,none⟩)/\w.heap[b]?=some (.cells us t (0,0))/\us.size=cs.length/\(∀u∈us,u.oneCell'=true)/\(∀(j:Nat) (u:Value) (s:SV),us[j]?=some u->cs[j]?=some s->RepS g w u s)/\
  (∀o,¬g.St b o)/\(∀id,g.blk id≠some b)/\C.w0.heap.size<=b/\b<w.heap.size
theorem Fresh.grow{C:Ctx}{g g':Gh}{w w':World}{v:Value}{cs:List SV}{t:TypeId}(hst:∀b o,g.St b o->b<w.heap.size)(h:Fresh C g w v cs t)(k:Grow g w g' w'): Fresh C g' w' v cs t:=by
 obtain⟨b,us,h1,h2,q1,q2,q3,h3,h4,h5,h6⟩:=h
 refine⟨b,us,h1,(k.heap b h6).trans h2,q1,q2,fun j u s hu hs=>(q3 j u s hu hs).grow hst k,fun o ho=>?_,fun id=>by rw[k.blk];exact h4 id,h5,qAV h6 k.size⟩
 rcases k.new b o ho with h7|h7
 ·exact h3 o h7
 ·omega
theorem AbsG.adopt{C:Ctx}{g:Gh}{σ:Sl}{η:List Ob}{a:Act}{w:World}(h:AbsG C g σ η a w){d:Nat}{cs:List SV}{t:TypeId}(hf:Fresh C g w (a.tmps.getD d undef) cs t):
  ∃g',AbsG C g' ((d,.ptr η.length 0)::σ) (η++[.bx none (some t) cs]) a w/\g'.St=g.St/\(∀id b,g'.blk id=some b->g.blk id=some b\/a.tmps.getD d undef=.pointer (some ⟨b,0,none⟩))/\∀{v:Value} {s:SV},RepS g w v s->RepS g' w v s:=by
 obtain⟨b,us,f1,f2,z1,z2,z3,f3,f4,f5,f6⟩:=hf
 have hn:=h.inv.n
 let g':Gh:={ g with blk:=upd g.blk g.n (some b),n:=g.n+1 }
 have hold:∀id,id<g.n->g'.blk id=g.blk id/\g'.cap id=g.cap id/\g'.sz id=g.sz id:=fun id hid=>⟨by simp[g',upd,Nat.ne_of_lt hid],rfl,rfl⟩
 have hbn:g'.blk g.n=some b:=by simp[g',upd]
 have hb':∀id c,g'.blk id=some c->(id<g.n/\g.blk id=some c)\/(id=g.n/\c=b):=by
  intro id c hc
  rcases qBI id g.n with hi|hi|hi
  ·rw[(hold id hi).1]at hc;exact .inl ⟨hi,hc⟩
  ·subst hi;rw[hbn]at hc;injection hc with hc;exact .inr ⟨rfl,hc.symm⟩
  ·have hne:id≠g.n:=by omega
   simp only[g',upd,if_neg hne]at hc
   rw[h.inv.dead id (by omega)]at hc;cases hc
 have kp:=Keep.refl g.St w
 have rx:∀{v:Value} {s:SV},RepS g w v s->RepS g' w v s:=fun r=>r.ext (g':=g') kp hold (qBb _)
 refine⟨g',⟨h.defers,h.size,⟨by rw[qAO];show g.n+1=_;rw[hn];rfl,fun id c hc=>?_,fun id hid=>?_,fun i j c hi hj=>?_,fun id o ho=>?_,h.inv.st,h.inv.gl⟩,h.os,h.tape,h.output,h.wsize,h.heap,h.keep,h.new,fun id c hc hr=>?_,fun u=>?_⟩,rfl,fun id c hc=>?_,rx⟩
 ·rcases hb' id c hc with⟨_,q⟩|⟨_,rfl⟩
  ·exact h.inv.lt id c q
  ·exact f6
 ·have hid:g.n+1<=id:=hid
  have hne:id≠g.n:=by omega
  simp only[g',upd,if_neg hne];exact h.inv.dead id (by omega)
 ·rcases hb' i c hi with⟨q1,q2⟩|⟨q1,q2⟩ <;> rcases hb' j c hj with⟨q3,q4⟩|⟨q3,q4⟩
  ·exact h.inv.inj i j c q2 q4
  ·exact absurd (q4▸q2) (f4 i)
  ·exact absurd (q2▸q4) (f4 j)
  ·omega
 ·rw[List.getElem?_append]at ho
  split at ho
  ·rename_i hc
   exact(h.inv.ob id o ho).ext (g':=g') kp hold (qBb _) (by omega) (fun _ _=>⟨rfl,fun _=>Iff.rfl⟩)
  ·rename_i hc
   have hid:id=g.n:=by
    have:=(qAA.1 ho).1
    simp at this;omega
   subst hid
   have:g.n-η.length=0:=by omega
   rw[this]at ho
   simp at ho;subst ho
   exact⟨b,t,us,hbn,f2,z1,z2,fun j u s hu hs=>rx (z3 j u s hu hs),f3,fun _ h=>(by cases h),fun _ h=>(qA8 h).symm⟩
 ·rcases hb' id c hc with⟨_,q⟩|⟨_,rfl⟩
  ·exact h.own id c q hr
  ·exact .inl f5
 ·rw[zA7]
  split
  ·rename_i e;subst e
   refine⟨by show η.length<g.n+1;omega,b,by rw[<-hn];exact hbn,f1⟩
  ·exact rx (h.rep u)
 ·rcases hb' id c hc with⟨_,q⟩|⟨_,rfl⟩
  ·exact .inl q
  ·exact .inr f1
theorem AbsG.other{C:Ctx}{g:Gh}{σ:Sl}{η:List Ob}{a:Act}{w:World}(h:AbsG C g σ η a w){b:Nat}(us':Array Value)(hst:∀o,¬g.St b o)(hb:∀id,g.blk id≠some b)(h0:C.w0.heap.size<=b):
  AbsG C g σ η a (w.setRow b us')/\∀{v:Value} {s:SV},RepS g w v s->RepS g (w.setRow b us') v s:=by
 have hoth:∀k,k≠b->(w.setRow b us').heap[k]?=w.heap[k]?:=fun k hk=>setRow_other w b k us' hk
 have kp:Keep g.St w g.St (w.setRow b us'):=⟨fun _ _ h=>h,fun c o u hc hu=>(World.cell?_of_block (a:=⟨c,o,none⟩) (hoth c (fun e=>hst o (e▸hc)))).trans hu,fun c hc=>hoth c (fun e=>hst 0 (e▸hc 0))⟩
 have rk:∀{v:Value} {s:SV},RepS g w v s->RepS g (w.setRow b us') v s:=fun r=>r.ext kp (fun _ _=>⟨rfl,rfl,rfl⟩) (qAM _)
 refine⟨⟨h.defers,h.size,⟨h.inv.n,fun i c hc=>by rw[setRow_size];exact h.inv.lt i c hc,h.inv.dead,h.inv.inj,fun i o ho=>?_,fun c o hc=>by rw[setRow_size];exact h.inv.st c o hc,h.inv.gl.keep kp⟩,h.os,h.tape,h.output,by rw[setRow_size];exact h.wsize,
  fun k hk hx=>?_,h.keep.trans kp,h.new,h.own,fun t=>rk (h.rep t)⟩,rk⟩
 ·exact(h.inv.ob i o ho).ext kp (fun _ _=>⟨rfl,rfl,rfl⟩) (qAM _) (by rw[h.inv.n];exact(qAA.1 ho).1) (fun c hcb=>⟨hoth c (fun e=>hb i (e▸hcb)),fun _=>Iff.rfl⟩)
 ·rw[hoth k (fun e=>by omega)];exact h.heap k hk hx
structure Pn where
 d:Nat
 zs:List Value
 t:TypeId
 cs:List SV
def adσ: List Pn->Nat->Sl->Sl
 |[],_,σ=>σ
 |p::r,n,σ=>adσ r (n+1) ((p.d,.ptr n 0)::σ)
def adη(pn:List Pn): List Ob:=pn.map fun p=>.bx none (some p.t) p.cs
theorem AbsG.adoptAll{C:Ctx}{a:Act}{w:World}: ∀(pn:List Pn) (g:Gh) (σ:Sl) (η:List Ob),AbsG C g σ η a w->(∀p∈pn,Fresh C g w (a.tmps.getD p.d undef) p.cs p.t)->
  (pn.Pairwise fun p q=>a.tmps.getD p.d undef≠a.tmps.getD q.d undef)->Abs C (adσ pn η.length σ) (η++adη pn) a w
 |[],g,σ,η,h,_,_=>⟨g,by simpa[adσ,adη]using h⟩
 |p::r,g,σ,η,h,hf,hp=>by
  obtain⟨hp1,hp2⟩:=List.pairwise_cons.1 hp
  obtain⟨g',h1,h2,h3,h4⟩:=h.adopt (hf p (by simp))
  have:=AbsG.adoptAll r g' _ _ h1 (fun q hq=>?_) hp2
  ·rw[qAO]at this
   simpa[adσ,adη,List.append_assoc]using this
  ·obtain⟨b,us,f1,f2,z1,z2,z3,f3,f4,f5,f6⟩:=hf q (by simp[hq])
   refine⟨b,us,f1,f2,z1,z2,fun j u s hu hs=>h4 (z3 j u s hu hs),by rw[h2];exact f3,fun id hid=>?_,f5,f6⟩
   rcases h3 id b hid with h5|h5
   ·exact f4 id h5
   ·exact hp1 q hq (by rw[h5,f1])
def once(l:List Oper)(j d:Nat): Bool:=(List.range l.length).all fun i=>Nat.beq i j||match l[i]? with|some o=>!(match o.dst with|some e=>Nat.beq e d|none=>false)|none=>true
theorem zOt{l:List Oper}{j d:Nat}(h:once l j d=true){i:Nat}{o:Oper}(hi:l[i]?=some o)(hne:i≠j): o.dst≠some d:=by
 have:=qAF.1 h i (qBL.2 (qAA.1 hi).1)
 intro hd
 simp[hi,hd]at this
 exact hne this
inductive SegK where
 |y (s:SV)
 |mk (p:Pn) (st:Option Nat)
 |st (of:Nat) (p:Pn)
def SegK.sv: SegK->SV
 | .y s=>s
 | .mk _ _=>.top
 | .st _ _=>.top
def zLI(C:Ctx)(l:List Oper)(η:List Ob)(all:List SegK): Nat->List Oper->List SegK->Sl->Prop
 |j,o::r,.y s::ks,σ=>(Wants l.toArray σ o.guard true/\Ylds C.P η σ o s)/\zEP C.N o.dst/\zLI C l η all (j+1) r ks (put σ o.dst s)
 |j,o::r,.mk p st::ks,σ=>(o.op=.alloc p.t/\o.guard=none/\o.dst=some p.d/\zBJ C.P p.t=some p.zs/\once l j p.d=true/\(match st with|none=>p.cs=p.zs.map cst|some i=>all[i]?=some (.st j p)))/\zEP C.N o.dst/\zLI C l η all (j+1) r ks (put σ o.dst .top)
 |j,o::r,.st i p::ks,σ=>((∃t x y b0 n,o.op=.store t x y/\x=.tmp p.d/\zEx (oval σ y)=some p.cs/\zA9 C.P t=some (b0,n)/\Nat.beq p.cs.length n=true)/\o.guard=none/\o.dst=none/\all[i]?=some (.mk p (some j))/\Nat.blt i j=true/\Nat.beq p.zs.length p.cs.length=true)/\zLI C l η all (j+1) r ks (put σ o.dst .top)
 |_,_,[],_=>True
 |_,[],_::_,_=>False
def pnOf: List SegK->List Pn
 |[]=>[]
 | .mk p _::r=>p::pnOf r
 |_::r=>pnOf r
def segσ: List Oper->List SegK->Sl->Sl
 |o::r,k::ks,σ=>segσ r ks (put σ o.dst k.sv)
 |_,_,σ=>σ
theorem zFu{C:Ctx}{l:List Oper}{η:List Ob}{all:List SegK}: ∀(r:List Oper) (ks:List SegK) (j:Nat) (σ:Sl),zLI C l η all j r ks σ->ks.length<=r.length
 |_,[],_,_,_=>qAR _
 |o::r,.y s::ks,j,σ,h=>by have:=zFu r ks _ _ h.2.2;simpa using this
 |o::r,.mk p _::ks,j,σ,h=>by have:=zFu r ks _ _ h.2.2;simpa using this
 |o::r,.st _ p::ks,j,σ,h=>by have:=zFu r ks _ _ h.2;simpa using this
 |[],_::_,_,_,h=>h.elim
theorem zME{C:Ctx}{l:List Oper}{η:List Ob}{all:List SegK}: ∀(r:List Oper) (ks:List SegK) (j:Nat) (σ:Sl),zLI C l η all j r ks σ->∀(i:Nat) o k,r[i]?=some o->ks[i]?=some k->
  (match k with
  | .y s=>zEP C.N o.dst/\Wants l.toArray (pst σ j r (ks.map SegK.sv) (fun m=>decide (m<j+i))) o.guard true/\Ylds C.P η (pst σ j r (ks.map SegK.sv) (fun m=>decide (m<j+i))) o s
  | .mk p st=>zEP C.N o.dst/\o.op=.alloc p.t/\o.guard=none/\o.dst=some p.d/\zBJ C.P p.t=some p.zs/\once l (j+i) p.d=true/\(match st with|none=>p.cs=p.zs.map cst|some m=>all[m]?=some (.st (j+i) p))
  | .st m p=>(∃t x y b0 n,o.op=.store t x y/\x=.tmp p.d/\zEx (oval (pst σ j r (ks.map SegK.sv) (fun m=>decide (m<j+i))) y)=some p.cs/\zA9 C.P t=some (b0,n)/\Nat.beq p.cs.length n=true)/\o.guard=none/\o.dst=none/\all[m]?=some (.mk p (some (j+i)))/\Nat.blt m (j+i)=true/\Nat.beq p.zs.length p.cs.length=true)
 |_,[],_,_,_,i,o,k,_,hk=>by simp at hk
 |[],_::_,_,_,h,_,_,_,_,_=>h.elim
 |o::r,k::ks,j,σ,h,0,o',k',ho,hk=>by
  simp at ho hk;subst ho;subst hk
  have e0:∀t,get (pst σ j (o::r) ((k::ks).map SegK.sv) (fun m=>decide (m<j+0))) t=get σ t:=by
   intro t
   have:=zB9 t (o::r) ((k::ks).map SegK.sv) σ σ j (fun m=>decide (m<j+0)) (fun _=>false) rfl (fun i o' hi hne=>by simp at hne)
   rw[this,zEI]
  cases k with
  |y s=>exact⟨h.2.1,h.1.1.congr e0,h.1.2.congr fun x _=>zDO e0 x⟩
  |mk p st=>exact⟨h.2.1,h.1⟩
  |st m p =>
   obtain⟨⟨⟨t,x,y,b0,n,h1,h2,h3,h4⟩,h5⟩,_⟩:=h
   exact⟨⟨t,x,y,b0,n,h1,h2,by rw[zDO e0 y];exact h3,h4⟩,h5⟩
 |o::r,k::ks,j,σ,h,i+1,o',k',ho,hk=>by
  have hh:zLI C l η all (j+1) r ks (put σ o.dst k.sv):=by
   cases k with
   |y s=>exact h.2.2
   |mk p st=>exact h.2.2
   |st m p=>exact h.2
  have:=zME r ks (j+1) _ hh i o' k' (by simpa using ho) (by simpa using hk)
  have hj:j+(i+1)=j+1+i:=by omega
  have hd:decide (j<j+1+i)=true:=by simp;omega
  simp only[qBN,pst,hj,hd]
  exact this
theorem zG7: ∀(r:List Oper) (ks:List SegK) (j:Nat) (σ:Sl) (f:Nat->Bool),(∀i,i<ks.length->f (j+i)=true)->pst σ j r (ks.map SegK.sv) f=segσ r ks σ
 |[],ks,_,_,_,_=>by cases ks <;> rfl
 |_::_,[],_,_,_,_=>rfl
 |o::r,k::ks,j,σ,f,h=>by
  have h0:=h 0 (by simp)
  rw[qA5]at h0
  simp only[qBN,pst,h0,segσ]
  exact zG7 r ks (j+1) _ f (fun i hi=>by rw[show j+1+i=j+(i+1) by omega];exact h (i+1) (by simpa using hi))
theorem zF0: ∀{ks:List SegK} {p:Pn},p∈pnOf ks->∃(j:Nat) (st:Option Nat),ks[j]?=some (.mk p st)
 | .y s::ks,p,h=>by obtain⟨j,st,hj⟩:=zF0 (ks:=ks) h;exact⟨j+1,st,by simpa using hj⟩
 | .st _ _::ks,p,h=>by obtain⟨j,st,hj⟩:=zF0 (ks:=ks) h;exact⟨j+1,st,by simpa using hj⟩
 | .mk q st::ks,p,h=>by
  rcases qAs.1 h with rfl|h
  ·exact⟨0,st,rfl⟩
  ·obtain⟨j,st,hj⟩:=zF0 (ks:=ks) h;exact⟨j+1,st,by simpa using hj⟩
 |[],p,h=>by simp[pnOf]at h
theorem zFz{R:Pn->Pn->Prop}: ∀(ks:List SegK),(∀(i j:Nat) p q s s',ks[i]?=some (.mk p s)->ks[j]?=some (.mk q s')->i≠j->R p q)->(pnOf ks).Pairwise R
 |[],_=>.nil
 | .y s::ks,h=>zFz ks (fun i j p q s s' hi hj hne=>h (i+1) (j+1) p q s s' (by simpa using hi) (by simpa using hj) (by omega))
 | .st _ _::ks,h=>zFz ks (fun i j p q s s' hi hj hne=>h (i+1) (j+1) p q s s' (by simpa using hi) (by simpa using hj) (by omega))
 | .mk p st::ks,h=>List.pairwise_cons.2 ⟨fun q hq=>by obtain⟨j,s',hj⟩:=zF0 hq;exact h 0 (j+1) p q st s' rfl (by simpa using hj) (by omega),zFz ks (fun i j p q s s' hi hj hne=>h (i+1) (j+1) p q s s' (by simpa using hi) (by simpa using hj) (by omega))⟩
theorem zGN{P:Program}{t:TypeId}{zs:List Value}(h:zBJ P t=some zs): (∀v∈zs,v.oneCell'=true)/\∃z,z.cells.toList=zs/\(∀w,(zeroValue t).run P w=.ok z w):=by
 unfold zBJ at h
 split at h
 ·rename_i i hi
  split at h
  ·rename_i z hz
   split at h
   ·rename_i hall
    injection h with h;subst h
    exact⟨fun v hv=>qA7.1 hall v (by simpa using hv),z,rfl,fun w=>by simp[zeroValue,typeInfo,hi,hz]⟩
   ·cases h
  ·cases h
 ·cases h
def holds(f:Nat->Bool)(p:Pn)(st:Option Nat): List SV:=match st with
 |none=>p.cs
 |some i=>if f i then p.cs else p.zs.map cst
theorem zBH{C:Ctx}{Q:Exit->Sl->List Ob->Prop}{σ:Sl}{η:List Ob}{id:Nat}{l:List Oper}(ks:List SegK)(hm:C.P.follows .mixedOrders=true)(hB:zEt l=true)
  (hbar:ks.length=l.length\/zGj l.toArray (l.length-ks.length-1)=true) (hs:zLI C l η ks 0 l ks σ)
  (h:alex C true l.toArray (l.drop ks.length) (Q .normal) (adσ (pnOf ks) η.length (segσ l ks σ)) (η++adη (pnOf ks))):awp C (.region id l.toArray true) Q σ η:=by
 intro R hR a w ⟨g,hg⟩
 have hd:Abs C σ η a { w with drawn:=w.drawn+1 }:=⟨g,hg.grow ⟨rfl,rfl,rfl,rfl,rfl,rfl,rfl,qAM _,fun _ _=>rfl,fun _ _ h=>h,fun _ _ h=>.inl h,hg.inv.st⟩⟩
 have hkl:=zFu l ks 0 σ hs
 have hat:=zME l ks 0 σ hs
 have spec:=zD7 hB
 let I:(Nat->Bool)->Act->World->Prop:=fun f a w=>∃g,AbsG C g (pst σ 0 l (ks.map SegK.sv) f) η a w/\(∀(j:Nat) p st,ks[j]?=some (.mk p st)->f j=true->Fresh C g w (a.tmps.getD p.d undef) (holds f p st) p.t)/\
  (∀(i j:Nat) p q s s',ks[i]?=some (.mk p s)->ks[j]?=some (.mk q s')->i≠j->f i=true->f j=true->a.tmps.getD p.d undef≠a.tmps.getD q.d undef)
 have hlk:∀{j:Nat} {k:SegK},ks[j]?=some k->∃o,l[j]?=some o:=fun hk=>⟨_,qAB (qAV (qAA.1 hk).1 hkl)⟩
 refine wp_region_any hm (zOC (C:=C) (K:=Q .normal) (fun σ' η' a w hk hab=>hR _ _ _ _ _ hk hab) hB ks.length hkl hbar I ?_ ?_ _ _ a _ (by simp) ?_ ?_ (fun i _ hi=>?_) ?_)
 ·intro f a w hf ⟨g,h1,h2,h3⟩
  refine⟨_,_,h,?_⟩
  rw[zG7 l ks 0 σ f (fun i hi=>by rw[qAU];exact hf i hi)]at h1
  refine h1.adoptAll _ _ _ _ (fun p hp=>?_) (zFz ks fun i j p q s s' hi hj hne=>h3 i j p q s s' hi hj hne (hf i (qAA.1 hi).1) (hf j (qAA.1 hj).1))
  obtain⟨j,st,hj⟩:=zF0 hp
  have hjl:=(qAA.1 hj).1
  have hfr:=h2 j p st hj (hf j hjl)
  obtain⟨o,ho⟩:=hlk hj
  have hcs:holds f p st=p.cs:=by
   cases st with
   |none=>rfl
   |some i =>
    have:ks[i]?=some (.st (0+j) p):=(hat j o _ ho hj).2.2.2.2.2.2
    have hil:i<ks.length:=(qAA.1 this).1
    simp only[holds,hf i hil,if_true]
  rw[hcs]at hfr;exact hfr
 ·intro f j o a w hjm hlj hun hcl hdep ⟨g,h1,h2,h3⟩
  obtain⟨k,hk⟩:∃k,ks[j]?=some k:=⟨_,qAB hjm⟩
  have hkk:=hat j o k hlj hk
  rw[qAU]at hkk
  have same:=zI4 (σ:=σ) (ss:=ks.map SegK.sv) hB hlj hun hcl hdep
  have hsk:(ks.map SegK.sv)[j]?=some k.sv:=by rw[qAG,hk];rfl
  have next:=zI5 (σ:=σ) hB hlj hsk hun hcl
  have stay:∀(i:Nat) p st v,ks[i]?=some (.mk p st)->i≠j->(a.put o.dst v).tmps.getD p.d undef=a.tmps.getD p.d undef:=by
   intro i p st v hi hne
   obtain⟨o',hli⟩:=hlk hi
   have hon:=(hat i _ _ hli hi).2.2.2.2.2.1
   rw[qAU]at hon
   have hne2:=zOt hon hlj (fun e=>hne e.symm)
   cases hod:o.dst with
   |none=>rfl
   |some e =>
    have:e≠p.d:=fun h=>hne2 (by rw[hod,h])
    simp[Act.put,Array.getD_eq_getD_getElem?,Array.getElem?_setIfInBounds_ne this]
  have hmk:∀i,(i==j||f i)=true->i≠j->f i=true:=fun i h hne=>by
   have:(i==j)=false:=by simpa using hne
   simpa[this]using h
  have hsame:(∀m p,k≠.st m p)->∀(i:Nat) p st,ks[i]?=some (.mk p st)->holds (fun i=>i==j||f i) p st=holds f p st:=fun hns i p st hi=>by
   cases st with
   |none=>rfl
   |some m =>
    obtain⟨o',ho'⟩:=hlk hi
    have:ks[m]?=some (.st (0+i) p):=(hat i o' _ ho' hi).2.2.2.2.2.2
    have hmj:m≠j:=fun e=>by subst e;rw[hk]at this;exact hns _ _ (qA8 this)
    have:(m==j)=false:=by simpa using hmj
    simp only[holds,this,qBW]
  cases k with
  |y s =>
   left
   obtain⟨hdst,hw,hy⟩:=hkk
   refine⟨hw.wanted (g:=g) (w:=w) fun t q b hgd ht=>by rw[<-same t (zEj hgd ht)];exact h1.rep t,?_⟩
   have hy':Ylds C.P η (pst σ 0 l (ks.map SegK.sv) f) o s:=hy.congr fun x hx=>by
    cases x with
    |tmp t=>exact same t (zBf hx)
    |_=>rfl
   have fin:∀v g' w',Grow g w g' w'->RepS g' w' v s->I (fun i=>i==j||f i) (a.put o.dst v) w':=fun v g' w' hgr hr=>by
    have hab:=(h1.grow hgr).put hdst hr
    refine⟨g',hab.get_eq fun t=>.inl (next t).symm,fun i p st hi hfi=>?_,fun i i2 p q s1 s2 hi hi2 hne hf1 hf2=>?_⟩
    ·have hne:i≠j:=fun e=>by subst e;rw[hk]at hi;cases hi
     rw[stay i p st v hi hne,hsame (fun _ _ h=>by cases h) i p st hi]
     exact(h2 i p st hi (hmk i hfi hne)).grow h1.inv.st hgr
    ·have hne1:i≠j:=fun e=>by subst e;rw[hk]at hi;cases hi
     have hne2:i2≠j:=fun e=>by subst e;rw[hk]at hi2;cases hi2
     rw[stay i p s1 v hi hne1,stay i2 q s2 v hi2 hne2]
     exact h3 i i2 p q s1 s2 hi hi2 hne (hmk i hf1 hne1) (hmk i2 hf2 hne2)
   unfold Oper.wp
   rcases hy' g w a h1.inv (fun x _=>h1.eval x)with⟨v,g',w',hr,hg,hs'⟩|⟨fn,args,hr,hc⟩
   ·rw[hr];exact fin v g' w' hg hs'
   ·rw[hr,Oper.upon_enter]
    refine hc.mono fun e w' ⟨v,g',he,hg,hs'⟩=>?_
    subst he
    exact fin v g' w' hg hs'
  |mk p st =>
   left
   obtain⟨hdst,q1,q2,q3,q4,q5,q6⟩:=hkk
   refine⟨by unfold Region.wanted;rw[q2],?_⟩
   obtain⟨z1,z,z2,z3⟩:=zGN q4
   have hrun:(execOp a.eval o).run C.P w=.ok (.value (.pointer (some ⟨w.heap.size,0,none⟩))) (w.alloc (.cells z.cells p.t)):=by
    simp[execOp,q1,Instr.alloc,z3,newVar,newRow]
   have hgr:Grow g w g (w.alloc (.cells z.cells p.t)):=⟨rfl,rfl,rfl,rfl,rfl,rfl,rfl,by simp,fun k hk=>Below.heap_alloc w _ k hk,fun _ _ h=>h,fun _ _ h=>.inl h,fun b o hb=>qAV (h1.inv.st b o hb) (by simp)⟩
   unfold Oper.wp
   rw[hrun]
   have hab:=(h1.grow hgr).put (d:=o.dst) (v:=.pointer (some ⟨w.heap.size,0,none⟩)) (s:=.top) hdst trivial
   have hnew:(a.put o.dst (.pointer (some ⟨w.heap.size,0,none⟩))).tmps.getD p.d undef=.pointer (some ⟨w.heap.size,0,none⟩):=by
    rw[q3]
    have hlt:p.d<a.tmps.size:=by rw[q3]at hdst;rw[h1.size];simpa[zEP,Nat.blt_eq]using hdst
    simp[Act.put,hlt]
   have hold:∀(i:Nat) q s,ks[i]?=some (.mk q s)->f i=true->a.tmps.getD q.d undef≠.pointer (some ⟨w.heap.size,0,none⟩):=fun i q s hi hfi he=>by
    obtain⟨b,us,f1,_,_,_,_,_,_,_,f6⟩:=h2 i q s hi hfi
    rw[he]at f1
    injection f1 with f1;injection f1 with f1;injection f1 with f1
    omega
   have hz:holds (fun i=>i==j||f i) p st=p.zs.map cst:=by
    cases st with
    |none=>exact q6
    |some m =>
     simp only at q6
     obtain⟨o',ho'⟩:=hlk q6
     obtain⟨⟨tt,x,y,b0,n,r1,r2,_⟩,_,_,_,r3,_⟩:=hat m o' _ ho' q6
     rw[qAU]at r3
     have hjm:j<m:=by simpa using r3
     have hfm:f m=false:=by
      cases hfm:f m with
      |false=>rfl
      |true =>
       rcases(spec m o' ho').2.2 j o hjm hlj with⟨e,he,hb,hon⟩|hap
       ·have:=hcl m o' ho' hfm e he hb
        rw[hon,hun]at this;cases this
       ·exact absurd (zBf (ops:=l.toArray) (o:=o') (t:=p.d) (by rw[r1,r2];simp[Op.operands])) ((Oper.apart_spec hap).1 p.d q3)
     have:(m==j)=false:=by simp;omega
     simp only[holds,this,hfm,Bool.or_false,qBU,if_false]
   refine⟨g,hab.get_eq fun t=>.inl (next t).symm,fun i q s hi hfi=>?_,fun i i2 q q' s s' hi hi2 hne hf1 hf2=>?_⟩
   ·by_cases hij:i=j
    ·subst hij
     rw[hk]at hi;injection hi with hi;injection hi with hi hi';subst hi;subst hi'
     rw[hnew,hz]
     refine⟨w.heap.size,z.cells,rfl,_root_.Go.heap_alloc_new w _,by rw[<-z2];simp,fun u hu=>z1 u (by rw[<-z2];simpa using hu),fun jj u s hu hs=>?_,fun o ho=>absurd (h1.inv.st _ o ho) (by omega),fun id hid=>absurd (h1.inv.lt id _ hid) (by omega),h1.wsize,by simp⟩
     rw[<-z2,qAG]at hs
     rw[<-qAr]at hu
     rw[hu]at hs
     simp at hs;subst hs;exact RepS.cst _ _ u
    ·rw[stay i q s _ hi hij,hsame (fun _ _ h=>by cases h) i q s hi]
     exact(h2 i q s hi (hmk i hfi hij)).grow h1.inv.st hgr
   ·by_cases hij:i=j
    ·have hij2:i2≠j:=fun e=>hne (hij.trans e.symm)
     subst hij
     rw[hk]at hi;injection hi with hi;injection hi with hi hi';subst hi
     rw[hnew,stay i2 q' s' _ hi2 hij2]
     exact fun e=>hold i2 q' s' hi2 (hmk i2 hf2 hij2) e.symm
    ·by_cases hij2:i2=j
     ·subst hij2
      rw[hk]at hi2;injection hi2 with hi2;injection hi2 with hi2 hi2';subst hi2
      rw[hnew,stay i q s _ hi hij]
      exact hold i q s hi (hmk i hf1 hij)
     ·rw[stay i q s _ hi hij,stay i2 q' s' _ hi2 hij2]
      exact h3 i i2 q q' s s' hi hi2 hne (hmk i hf1 hij) (hmk i2 hf2 hij2)
  |st m p =>
   left
   obtain⟨⟨t,x,y,b0,n,r1,r2,r3,r4,r5⟩,q2,q3,q4,q5,q6⟩:=hkk
   refine⟨by unfold Region.wanted;rw[q2],?_⟩
   have hmj:m<j:=by simpa using q5
   obtain⟨om,hom⟩:=hlk q4
   have hq4:=hat m om _ hom q4
   have hfm:f m=true:=by
    rcases(spec j o hlj).2.2 m om hmj hom with⟨e,he,hb,hon⟩|hap
    ·rw[<-hon];exact hdep e he hb
    ·exact absurd (zBf (ops:=l.toArray) (o:=o) (t:=p.d) (by rw[r1,r2];simp[Op.operands])) ((Oper.apart_spec hap).1 p.d hq4.2.2.2.1)
   have hfr:=h2 m p _ q4 hfm
   have hh:holds f p (some j)=p.zs.map cst:=by simp only[holds,hun,qBU,if_false]
   rw[hh]at hfr
   obtain⟨b,us,f1,f2,z1,z2,z3,f3,f4,f5,f6⟩:=hfr
   have hy1:oval (pst σ 0 l (ks.map SegK.sv) f) y=oval (pst σ 0 l (ks.map SegK.sv) (fun i=>decide (i<j))) y:=by
    cases y with
    |tmp u=>exact same u (zBf (by rw[r1];simp[Op.operands]))
    |_=>rfl
   have hry:=h1.eval y
   rw[hy1]at hry
   obtain⟨c1,c2,c3⟩:=hry.cells r3
   have hpl:=qAW q6
   have hn:=qAW r5
   have hus:us.size=p.cs.length:=by rw[z1,qAK];exact hpl
   have hstore:=run_storeCells_at C.P b 0 p.t (a.eval y).cells.toList 0 us w f2 (by rw[qAS];omega) (fun v hm=>c2 v (by simpa using hm))
   simp only[qA5,qAU,List.take_zero,qA9]at hstore
   rw[qAk (by rw[qAS,qAS];omega),qBG]at hstore
   obtain⟨ho1,ho2⟩:=h1.other (a.eval y).cells f3 f4 f5
   have hrun:(execOp a.eval o).run C.P w=.ok .skip (w.setRow b (a.eval y).cells):=by
    have hax:a.eval x=.pointer (some ⟨b,0,none⟩):=by rw[r2];exact f1
    simp only[execOp,r1,hax,Instr.storeAt,Instr.sureAddr,storeVar,Sem.run_bind,Sem.run_pure,Result.andThen_ok,(zBk r4 w).2,c1,hn,ne_eq,not_true,if_false,hstore]
   unfold Oper.wp
   rw[hrun]
   have hput:a.put o.dst undef=a:=by rw[q3];rfl
   show I _ (a.put o.dst undef) _
   rw[hput]
   have hnx:∀t,get (pst σ 0 l (ks.map SegK.sv) f) t=get (pst σ 0 l (ks.map SegK.sv) (fun i=>i==j||f i)) t:=fun t=>by have:=next t;rw[q3]at this;exact this
   have hoth:∀k,k≠b->(w.setRow b (a.eval y).cells).heap[k]?=w.heap[k]?:=fun k hk=>setRow_other w b k _ hk
   refine⟨g,ho1.get_eq fun t=>.inl (hnx t).symm,fun i q s hi hfi=>?_,fun i i2 q q' s s' hi hi2 hne hf1 hf2=>?_⟩
   ·have hij:i≠j:=fun e=>by subst e;rw[hk]at hi;cases hi
    have hfi':=hmk i hfi hij
    by_cases him:i=m
    ·subst him
     rw[q4]at hi;injection hi with hi;injection hi with hi hi';subst hi;subst hi'
     have hh2:holds (fun i=>i==j||f i) p (some j)=p.cs:=by simp[holds]
     rw[hh2]
     exact⟨b,(a.eval y).cells,f1,setRow_heap w b us _ p.t (0,0) f2,c1,c2,fun jj u s hu hs=>ho2 (c3 jj u s hu hs),f3,f4,f5,by rw[setRow_size];exact f6⟩
    ·have hne':∀st,s=some st->st≠j:=fun st hst hsj=>by
      subst hst;subst hsj
      obtain⟨o',ho'⟩:=hlk hi
      have:ks[st]?=some (.st (0+i) q):=(hat i o' _ ho' hi).2.2.2.2.2.2
      simp only[qAU]at this
      rw[hk]at this
      injection this with this;injection this with e1 e2
      exact him e1.symm
     have hh2:holds (fun i=>i==j||f i) q s=holds f q s:=by
      cases s with
      |none=>rfl
      |some st =>
       have:(st==j)=false:=by simpa using hne' st rfl
       simp only[holds,this,qBW]
     rw[hh2]
     obtain⟨b2,us2,g1,g2,y1,y2,y3,g3,g4,g5,g6⟩:=h2 i q s hi hfi'
     have hbb:b2≠b:=fun e=>by
      have:=h3 i m q p s _ hi q4 him hfi' hfm
      rw[g1,f1,e]at this;exact this rfl
     exact⟨b2,us2,g1,(hoth b2 hbb).trans g2,y1,y2,fun jj u s hu hs=>ho2 (y3 jj u s hu hs),g3,g4,g5,by rw[setRow_size];exact g6⟩
   ·have hij:i≠j:=fun e=>by subst e;rw[hk]at hi;cases hi
    have hij2:i2≠j:=fun e=>by subst e;rw[hk]at hi2;cases hi2
    exact h3 i i2 q q' s s' hi hi2 hne (hmk i hf1 hij) (hmk i2 hf2 hij2)
 ·refine qAi (qBS _ _) (by simp)
 ·intro j o hj hl
  have hjl:j<l.length:=(qAA.1 hj).1
  rw[qAN,qAL (by simpa using hjl)]at hl
  simp at hl
 ·rw[qAN,qAL (by simpa using hi)]
  simp
 ·obtain⟨g',hg'⟩:=hd
  have hf0:∀i,i<l.length->(Array.replicate l.toArray.size false).getD i true=false:=fun i hi=>by
   rw[qAN,qAL (by simpa using hi)];simp
  refine⟨g',hg'.get_eq fun t=>.inl ?_,fun j p st hj hf=>?_,fun i j p q s s' hi _ _ hf _=>?_⟩
  ·rw[zB9 t l (ks.map SegK.sv) σ σ 0 _ (fun _=>false) rfl (fun i o hi hne=>?_),zEI]
   rw[qAU,hf0 i (qAA.1 hi).1]at hne
   exact absurd rfl hne
  ·have:=hf0 j (by have:=(qAA.1 hj).1;omega)
   simp only[this]at hf;cases hf
  ·have:=hf0 i (by have:=(qAA.1 hi).1;omega)
   simp only[this]at hf;cases hf
def zB2(P:Program)(t:TypeId): Option (List (Nat×Nat)) :=
 match P.underlying t with
 |some (.struct fs)=>fs.toList.mapM fun f=>(P.info? f.type).map fun i=>(f.offset,i.size)
 |_=>none
def zGb{α:Type}(pl:List (Nat×Nat)): List α->List (Nat×List α)->Option (List α)
 |cs,[]=>some cs
 |cs,(i,vs)::r=>match pl[i]? with
  |some (off,size)=>match Nat.beq vs.length size&&Nat.ble (off+vs.length) cs.length with
   |true=>zGb pl (cs.take off++vs++cs.drop (off+vs.length)) r
   |false=>none
  |none=>none
theorem zKP: ∀(l:List Value) (off k:Nat) (cells:Array Value),off+k+l.length<=cells.size->
  ((l.zipIdx k).foldl (fun cs (x:Value×Nat)=>cs.setIfInBounds (off+x.2) x.1) cells).toList=cells.toList.take (off+k)++l++cells.toList.drop (off+k+l.length)
 |[],off,k,cells,_=>by simp
 |v::l,off,k,cells,h=>by
  have hl:off+k<cells.size:=by simp at h;omega
  simp only[List.zipIdx_cons,List.foldl_cons]
  rw[zKP l off (k+1) _ (by simp at h ⊢;omega)]
  have e1:(cells.setIfInBounds (off+k) v).toList=cells.toList.take (off+k)++v::cells.toList.drop (off+k+1):=by
   rw[Array.toList_setIfInBounds,List.set_eq_take_append_cons_drop,if_pos (by simpa using hl)]
  have e2:(cells.toList.take (off+k)).length=off+k:=by rw[qAT,qAS];omega
  rw[e1,show off+(k+1)=off+k+1 by omega]
  have e5:cells.toList.drop (off+k+1+l.length)=(cells.toList.drop (off+k+1)).drop l.length:=by rw[List.drop_drop]
  rw[qAJ,show off+k+(l.length+1)=off+k+1+l.length by omega,e5]
  generalize cells.toList.take (off+k)=A at *
  generalize cells.toList.drop (off+k+1)=B at *
  rw[List.take_append,List.drop_append,e2,qAn (by omega),List.drop_eq_nil_of_le (by omega:A.length<=off+k+1+l.length)]
  rw[show off+k+1-(off+k)=1 by omega,show off+k+1+l.length-(off+k)=l.length+1 by omega]
  simp
theorem zMh{α:Type}{R:Value->α->Prop}{pl:List (Nat×Nat)}: ∀(ps:List (Nat×Value)) (ss:List (Nat×List α)) (cells:Array Value) (cs cs':List α),ps.length=ss.length->
  (∀(j:Nat) p q,ps[j]?=some p->ss[j]?=some q->p.1=q.1/\p.2.cells.size=q.2.length/\∀(i:Nat) u s,p.2.cells[i]?=some u->q.2[i]?=some s->R u s)->
  cells.size=cs.length->(∀(i:Nat) u s,cells[i]?=some u->cs[i]?=some s->R u s)->zGb pl cs ss=some cs'->
  ∃cells',Instr.fill (pl.toArray[·]?) cells ps=some cells'/\cells'.size=cs'.length/\∀(i:Nat) u s,cells'[i]?=some u->cs'[i]?=some s->R u s
 |[],[],cells,cs,cs',_,_,hs,hr,h=>by simp only[zGb,Option.some.injEq]at h;subst h;exact⟨cells,rfl,hs,hr⟩
 |(i,v)::ps,(i',vs)::ss,cells,cs,cs',hl,hp,hs,hr,h=>by
  obtain⟨q1,q2,q3⟩:=hp 0 _ _ rfl rfl
  simp only at q1 q2 q3
  subst q1
  unfold zGb at h
  split at h
  ·rename_i off size hpl
   split at h
   ·rename_i hc
    rw[qAP]at hc
    have c1:=qAW hc.1
    have c2:=qAH hc.2
    have hfold:=zKP v.cells.toList off 0 cells (by rw[qAS];omega)
    have hz:(v.cells.zipIdx.foldl (fun cs (x:Value×Nat)=>cs.setIfInBounds (off+x.2) x.1) cells).toList=cells.toList.take off++v.cells.toList++cells.toList.drop (off+v.cells.size):=by
     rw[<-Array.foldl_toList,Array.toList_zipIdx]
     simpa using hfold
    have hsz:(v.cells.zipIdx.foldl (fun cs (x:Value×Nat)=>cs.setIfInBounds (off+x.2) x.1) cells).size=cells.size:=by
     rw[<-qAS,hz];simp;omega
    obtain⟨cells',r1,r2,r3⟩:=zMh (R:=R) ps ss (v.cells.zipIdx.foldl (fun cs (x:Value×Nat)=>cs.setIfInBounds (off+x.2) x.1) cells) _ cs' (by simpa using hl) (fun j p q h1 h2=>hp (j+1) p q (by simpa using h1) (by simpa using h2)) (by rw[hsz];simp;omega) (fun j u s hu hsj=>by
     rw[<-qAr,hz]at hu
     have e1:(cells.toList.take off).length=off:=by rw[qAT,qAS];omega
     have e2:(cs.take off).length=off:=by rw[qAT];omega
     rcases qAI j off with hj|hj
     ·rw[qAY,qAD (by omega),qAX,if_pos hj]at hu hsj
      exact hr j u s (by simpa using hu) hsj
     ·rw[qAY,qAC (by omega)]at hu hsj
      rw[e1]at hu;rw[e2]at hsj
      rcases qAI (j-off) vs.length with hj2|hj2
      ·rw[qAD (by first|omega|(rw[qAS];omega))]at hu hsj
       exact q3 (j-off) u s (by simpa using hu) hsj
      ·rw[qAC (by first|omega|(rw[qAS];omega))]at hu hsj
       rw[qAS,q2]at hu
       simp only[qAz]at hu hsj
       exact hr (off+vs.length+(j-off-vs.length)) u s (by simpa using hu) hsj) h
    refine⟨cells',?_,r2,r3⟩
    have hpl':pl.toArray[i]?=some (off,size):=by simpa using hpl
    have hcond:(decide (v.cells.size≠size)||decide (off+v.cells.size>cells.size))=false:=by simp;omega
    simp only[Instr.fill,hpl',hcond,qBU,if_false]
    exact r1
   ·cases h
  ·cases h
 |[],_::_,_,_,_,hl,_,_,_,_=>by simp at hl
 |_::_,[],_,_,_,hl,_,_,_,_=>by simp at hl
theorem zKo{P:Program}{t:TypeId}{pl:List (Nat×Nat)}{zs:List Value}{α:Type}{R:Value->α->Prop}{ps:List (Nat×Value)}{ss:List (Nat×List α)}{cs cs':List α}(hpl:zB2 P t=some pl)(hz:zBJ P t=some zs)(hl:ps.length=ss.length)
  (hp:∀(j:Nat) p q,ps[j]?=some p->ss[j]?=some q->p.1=q.1/\p.2.cells.size=q.2.length/\∀(i:Nat) u s,p.2.cells[i]?=some u->q.2[i]?=some s->R u s)
  (hzl:zs.length=cs.length) (hzr:∀(i:Nat) u s,zs[i]?=some u->cs[i]?=some s->R u s) (h:zGb pl cs ss=some cs'):∃cells',P.built t ps=some cells'/\cells'.size=cs'.length/\∀(i:Nat) u s,cells'[i]?=some u->cs'[i]?=some s->R u s:=by
 unfold zB2 at hpl
 split at hpl
 ·rename_i fs hfs
  unfold zBJ at hz
  split at hz
  ·rename_i it hit
   split at hz
   ·rename_i z hzz
    split at hz
    ·injection hz with hz;subst hz
     obtain⟨cells',r1,r2⟩:=zMh (R:=R) (pl:=pl) ps ss z.cells cs cs' hl hp (by simpa using hzl) (fun i u s hu hs=>hzr i u s (by simpa using hu) hs) h
     exact⟨cells',by simp only[Program.built,hit,hfs,hzz,hpl];exact r1,r2⟩
    ·cases hz
   ·cases hz
  ·cases hz
 ·cases hpl
def zGs(η:List Ob)(σ:Sl): List (Nat×Operand)->List (Nat×D)->Prop
 |[],[]=>True
 |(i,x)::r,(j,d)::s=>Nat.beq i j=true/\Co η (oval σ x) d/\okc d=true/\zGs η σ r s
 |_,_=>False
theorem zA6{η:List Ob}{σ:Sl}: zGs η σ [] []:=trivial
theorem PD_d{η:List Ob}{σ:Sl}{i:Nat}{x:Operand}{d:D}{r:List (Nat×Operand)}{s:List (Nat×D)}(h:oval σ x=.d d)(ho:okc d=true)(k:zGs η σ r s): zGs η σ ((i,x)::r) ((i,d)::s):=⟨by simp,by rw[h];rfl,ho,k⟩
theorem zIT{η:List Ob}{σ:Sl}{g:Gh}{w:World}{a:Act}(hi:Inv g w η): ∀(ps:List (Nat×Operand)) (ds:List (Nat×D)),(∀p∈ps,RepS g w (a.eval p.2) (oval σ p.2))->zGs η σ ps ds->(ps.map fun p=>(p.1,a.eval p.2)).length=(ds.map fun p=>(p.1,p.2.flat)).length/\
  ∀(j:Nat) p q,(ps.map fun p=>(p.1,a.eval p.2))[j]?=some p->(ds.map fun p=>(p.1,p.2.flat))[j]?=some q->p.1=q.1/\p.2.cells.size=q.2.length/\∀(i:Nat) u s,p.2.cells[i]?=some u->q.2[i]?=some s->RepD g.St w u s/\u.oneCell'=true
 |[],[],_,_=>⟨rfl,fun j p q h=>by simp at h⟩
 |(i,x)::r,(j',d)::s,ho,⟨h1,h2,h3,h4⟩=>by
  obtain⟨e1,e2⟩:=zIT hi r s (fun p hp=>ho p (by simp[hp])) h4
  have hr:=h2.rep hi (ho (i,x) (by simp))
  refine⟨by simpa using e1,fun j p q hp hq=>?_⟩
  cases j with
  |zero =>
   simp at hp hq;subst hp;subst hq
   have hc:=RepS.cells (g:=g) (w:=w) (v:=a.eval x) (s:=.d d) hr (zHU h3)
   refine⟨qAW h1,by simpa using hc.1,fun i u s hu hs=>⟨?_,hc.2.1 u (Array.mem_of_getElem? hu)⟩⟩
   have hs':(d.flat.map SV.d)[i]?=some (.d s):=by rw[qAG];simp only at hs;rw[hs];rfl
   exact hc.2.2 i u (.d s) hu hs'
  |succ j=>exact e2 j p q (by simpa using hp) (by simpa using hq)
 |[],_::_,_,h=>h.elim
 |_::_,[],_,h=>h.elim
section
variable {P:Program}{η:List Ob}{σ:Sl}{dst:Option Nat}{ty:TypeId}{pos:String}{after:Array Edge}{gd:Option (Nat×Bool)}{t:TypeId}{x y:Operand}
theorem zAf{ps:List (Nat×Operand)}{ds:List (Nat×D)}{pl:List (Nat×Nat)}{zs:List Value}{cs:List D}(hpl:zB2 P t=some pl)(hz:zBJ P t=some zs)(hp:zGs η σ ps ds)(hf:zGb pl (zs.map zdv) (ds.map fun p=>(p.1,p.2.flat))=some cs):
  Ylds P η σ ⟨dst,.build t ps.toArray,ty,pos,after,gd⟩ (.d (.agg cs)):=by
 refine Ylds.same fun g w a hi h=>?_
 obtain⟨e1,e2⟩:=zIT (a:=a) hi ps ds (fun p hp=>h p.2 (by
  simp only[Op.operands,List.mem_toArray,qAu];exact⟨p,hp,rfl⟩)) hp
 obtain⟨cells',r1,r2,r3⟩:=zKo (R:=fun u d=>RepD g.St w u d/\u.oneCell'=true) (cs:=zs.map zdv) hpl hz e1 e2 (by simp) (fun i u s hu hs=>by
  rw[qAG,hu]at hs
  simp at hs;subst hs
  exact⟨zGO _ _ u,(zGN hz).1 u (qAE hu)⟩) hf
 have hall:∀(j:Nat) u,cells'[j]?=some u->u.oneCell'=true:=fun j u hu=>by
  have hj:j<cs.length:=by rw[<-r2];exact(qAg.1 hu).1
  exact(r3 j u _ hu (qAB hj)).2
 refine⟨.agg cells',?_,?_⟩
 ·have:=run_build (P:=P) w t (ps.map fun p=>(p.1,a.eval p.2)).toArray cells' (by simpa using r1)
  simp only[execOp,Sem.run_bind,qAv,this,Result.andThen_ok,Sem.run_pure]
 ·have:=RepD.agg (St:=g.St) (w:=w) cells'.toList cs (by simpa using r2) (fun u hu=>by
   obtain⟨j,hj,rfl⟩:=List.mem_iff_getElem.1 hu
   exact hall j _ (by rw[Array.getElem_toList];exact qAL _)) (fun j u d hu hd=>(r3 j u d (by simpa using hu) hd).1)
  show RepD _ _ _ _
  simpa using this
end
def zIS(σ:Sl): List (Nat×Operand)->List (Nat×List SV)->Prop
 |[],[]=>True
 |(i,x)::r,(j,cs)::s=>Nat.beq i j=true/\zEx (oval σ x)=some cs/\zIS σ r s
 |_,_=>False
theorem zSt{σ:Sl}: zIS σ [] []:=trivial
theorem zIA{σ:Sl}{i:Nat}{x:Operand}{cs:List SV}{r:List (Nat×Operand)}{s:List (Nat×List SV)}(h:zEx (oval σ x)=some cs)(k:zIS σ r s): zIS σ ((i,x)::r) ((i,cs)::s):=⟨by simp,h,k⟩
theorem zIR{σ:Sl}{g:Gh}{w:World}{a:Act}: ∀(ps:List (Nat×Operand)) (ss:List (Nat×List SV)),(∀p∈ps,RepS g w (a.eval p.2) (oval σ p.2))->zIS σ ps ss->(ps.map fun p=>(p.1,a.eval p.2)).length=ss.length/\
  ∀(j:Nat) p q,(ps.map fun p=>(p.1,a.eval p.2))[j]?=some p->ss[j]?=some q->p.1=q.1/\p.2.cells.size=q.2.length/\∀(i:Nat) u s,p.2.cells[i]?=some u->q.2[i]?=some s->RepS g w u s/\u.oneCell'=true
 |[],[],_,_=>⟨rfl,fun j p q h=>by simp at h⟩
 |(i,x)::r,(j',cs)::s,ho,⟨h1,h2,h4⟩=>by
  obtain⟨e1,e2⟩:=zIR r s (fun p hp=>ho p (by simp[hp])) h4
  have hc:=(ho (i,x) (by simp)).cells h2
  refine⟨by simpa using e1,fun j p q hp hq=>?_⟩
  cases j with
  |zero =>
   simp at hp hq;subst hp;subst hq
   exact⟨qAW h1,hc.1,fun i u s hu hs=>⟨hc.2.2 i u s hu hs,hc.2.1 u (Array.mem_of_getElem? hu)⟩⟩
  |succ j=>exact e2 j p q (by simpa using hp) (by simpa using hq)
 |[],_::_,_,h=>h.elim
 |_::_,[],_,h=>h.elim
section
variable {C:Ctx}{ops:Array Oper}{rest:List Oper}{K:Sl->List Ob->Prop}{σ:Sl}{η:List Ob}{d d2:Nat}{ty ty2:TypeId}{pos pos2:String}{after after2:Array Edge}{t:TypeId}
theorem zK0{ps:List (Nat×Operand)}{ss:List (Nat×List SV)}{pl:List (Nat×Nat)}{zs:List Value}{cs:List SV}(hpl:zB2 C.P t=some pl)(hz:zBJ C.P t=some zs)(hp:zIS σ ps ss)(hf:zGb pl (zs.map cst) ss=some cs)
  (hd:Nat.blt d C.N=true) (hd2:Nat.blt d2 C.N=true) (hro:Nat.ble C.ro η.length=true) (h:alex C false ops rest K ((d2,.ptr η.length 0)::(d,.top)::σ) (η++[.bx none (some t) cs])) :
  alex C false ops (⟨some d,.build t ps.toArray,ty,pos,after,none⟩ :: ⟨some d2,.box t (.tmp d),ty2,pos2,after2,none⟩::rest) K σ η:=by
 refine w0 ?_
 intro Q hQ a w ⟨g,ha⟩ K' hK'
 obtain⟨e1,e2⟩:=zIR (g:=g) (w:=w) (a:=a) ps ss (fun p _=>ha.eval p.2) hp
 obtain⟨cells',r1,r2,r3⟩:=zKo (R:=fun u s=>RepS g w u s/\u.oneCell'=true) (cs:=zs.map cst) hpl hz e1 e2 (by simp) (fun i u s hu hs=>by
  rw[qAG,hu]at hs
  simp at hs;subst hs
  exact⟨RepS.cst _ _ u,(zGN hz).1 u (qAE hu)⟩) hf
 have hall:∀u∈cells',u.oneCell'=true:=fun u hu=>by
  obtain⟨j,hj,rfl⟩:=Array.mem_iff_getElem.1 hu
  have hjc:j<cs.length:=by rw[<-r2];exact hj
  exact(r3 j _ _ (qAL hj) (qAB hjc)).2
 have hrun:(execOp a.eval ⟨some d,.build t ps.toArray,ty,pos,after,none⟩).run C.P w=.ok (.value (.agg cells')) w:=by
  have:=run_build (P:=C.P) w t (ps.map fun p=>(p.1,a.eval p.2)).toArray cells' (by simpa using r1)
  simp only[execOp,Sem.run_bind,qAv,this,Result.andThen_ok,Sem.run_pure]
 unfold Oper.wp
 rw[hrun]
 refine hK' _ _ ?_
 have ha1:=ha.put (d:=some d) (v:=.agg cells') (s:=.top) hd trivial
 have hev:(a.put (some d) (.agg cells')).eval (.tmp d)=.agg cells':=by
  have hlt:d<a.tmps.size:=by rw[ha.size];simpa[Nat.blt_eq]using hd
  simp[Act.eval,Act.put,hlt]
 refine wpList_step fun K2 hK2=>?_
 rw[if_pos (show Region.wanted ⟨some d2,.box t (.tmp d),ty2,pos2,after2,none⟩ _=true from rfl)]
 unfold Oper.wp
 have hrun2:(execOp (a.put (some d) (.agg cells')).eval ⟨some d2,.box t (.tmp d),ty2,pos2,after2,none⟩).run C.P w=.ok (.value (.pointer (some ⟨w.heap.size,0,none⟩))) (w.alloc (.cells cells' t)):=by
  simp only[execOp,hev]
  simp[Instr.box,newVar,newRow,Value.cells]
 rw[hrun2]
 exact hK2 _ _ (h Q hQ _ _ (zQS (some t) ha1 t (fun _ h=>(qA8 h).symm) cells' cs hd2 (qAH hro) r2 hall (fun j u s hu hs=>(r3 j u s hu hs).1)))
end
section
variable {C:Ctx}{ops:Array Oper}{rest:List Oper}{K:Sl->List Ob->Prop}{σ:Sl}{η:List Ob}{d:Nat}{ty:TypeId}{pos:String}{after:Array Edge}{gd:Option (Nat×Bool)}{t:TypeId}{x y:Operand}
variable {P:Program}{dst:Option Nat}{yt:TypeId}
end
theorem SArgs.congr{σ σ':Sl}{ids:List Nat}: ∀{xs:List Operand} {as:List SV},SArgs σ ids xs as->(∀x∈xs,oval σ' x=oval σ x)->SArgs σ' ids xs as
 |[],[],_,_=>trivial
 |x::xs,s::as,h,ho=>⟨by rw[ho x (by simp)];exact h.1,SArgs.congr h.2 fun y hy=>ho y (by simp[hy])⟩
 |[],_::_,h,_=>h.elim
 |_::_,[],h,_=>h.elim
end Go.Sx
namespace Go.Sx
open Go.RowKit Go.Lib
def dfn: D->Option Bool
 | .val .nilFunc=>some false
 | .val (.func _ _ _)=>some true
 | .clo _ _=>some true
 |_=>none
section
variable {P:Program}{η:List Ob}{σ:Sl}{dst:Option Nat}{ty:TypeId}{pos:String}{after:Array Edge}{gd:Option (Nat×Bool)}{t yt:TypeId}{x y:Operand}
theorem RepDs.of_list{St:Stab}{w:World}: ∀{vs:List Value} {ds:List D},vs.length=ds.length->(∀(j:Nat) (u:Value) (d:D),vs[j]?=some u->ds[j]?=some d->RepD St w u d)->RepDs St w vs ds
 |[],[],_,_=>trivial
 |v::vs,d::ds,hl,h=>⟨h 0 v d rfl rfl,RepDs.of_list (by simpa using hl) fun j u e hu he=>h (j+1) u e (by simpa using hu) (by simpa using he)⟩
theorem RepDs.app{St:Stab}{w:World}: ∀{vs us:List Value} {ds es:List D},RepDs St w vs ds->RepDs St w us es->RepDs St w (vs++us) (ds++es)
 |[],_,[],_,_,h=>h
 |_::_,_,_::_,_,⟨h1,h2⟩,h=>⟨h1,RepDs.app h2 h⟩
theorem zVW{f:FuncId}{args:List Operand}{ts:Array TypeId}{cs ds:List D}{res:D}(hx:oval σ x=.d (.clo f cs))(hb:zAK P f=true)(hc:zAc P f (ds++cs) res)(ha:CoL η σ args ds):
  Ylds P η σ ⟨dst,.call ⟨.value x,args.toArray,ts⟩,ty,pos,after,gd⟩ (.d res):=by
 intro g w a hi hop
 have hr:=CoL.rep (a:=a) hi args ds (fun y hm=>hop y (by simp[Op.operands,Call.operands,hm])) ha
 have hxr:=hop x (by simp[Op.operands,Call.operands]);rw[hx]at hxr
 obtain⟨vs,hv,hl,hvs⟩:∃vs:List Value,a.eval x=.func (.func f) #[] vs.toArray/\vs.length=cs.length/\∀(j:Nat) (u:Value) (d:D),vs[j]?=some u->cs[j]?=some d->RepD g.St w u d:=by
  change RepD _ _ _ _ at hxr
  generalize a.eval x=v at hxr
  cases hxr with
  |clo f vs ds hl h=>exact⟨vs,rfl,hl,h⟩
 refine .inr ⟨f,(args.map a.eval++vs).toArray,?_,?_⟩
 ·simp only[execOp,resolve,hv,Deferred.ofValue,invoke,Sem.run_bind,Sem.run_pure,Result.andThen_ok,qAv,qBF]
  rw[List.append_toArray]
  exact zCQ hb
 ·refine(hc g.St w _ hi.st hi.gl (hr.app (RepDs.of_list hl hvs))).mono fun e w' ⟨v,St',he,hrep,hbel,hkeep,hnew,hlt⟩=>?_
  exact⟨v,{ g with St:=St' },he,⟨rfl,rfl,rfl,rfl,hbel.os,hbel.tape,hbel.output,hbel.size,hbel.block,hkeep.sub,hnew,hlt⟩,hrep⟩
theorem RepD.rptr{g:Gh}{w:World}{v:Value}{cs:List D}(h:RepD g.St w v (.ref cs)): RepS g w v (.rptr cs):=by
 cases h with
 |ref ad us cs hl h1 hc h=>exact⟨ad,us,rfl,hl,h1,hc,h⟩
theorem zCm{cs:List D}{d:D}{n:Nat}(hx:oval σ x=.d (.ref (d::cs)))(ht:zA9 P t=some (false,n)): Ylds P η σ ⟨dst,.load t x,ty,pos,after,gd⟩ (.d d):=by
 refine Ylds.same fun g w a hi h=>?_
 have h0:=h x (by simp[Op.operands]);rw[hx]at h0
 obtain⟨ad,us,hv,hl,ho,hc,hr⟩:=RepD.rptr h0
 cases us with
 |nil=>simp at hl
 |cons u us =>
  have h0:=(hc 0 u rfl).2
  refine⟨u,?_,hr 0 u d rfl rfl⟩
  simp only[Addr.add_zero']at h0
  simp[execOp,hv,Instr.loadAt,Instr.sureAddr,loadVar,(zBk ht w).1,h0]
def VCall(P:Program)(d:D)(ds:List D)(res:D): Prop:=∃f cs,d=.clo f cs/\zAK P f=true/\zAc P f (ds++cs) res
theorem zDW{d:D}{args:List Operand}{ts:Array TypeId}{ds:List D}{res:D}(hc:VCall P d ds res)(hx:oval σ x=.d d)(ha:CoL η σ args ds):
  Ylds P η σ ⟨dst,.call ⟨.value x,args.toArray,ts⟩,ty,pos,after,gd⟩ (.d res):=by
 obtain⟨f,cs,rfl,hb,hc⟩:=hc
 exact zVW hx hb hc ha
theorem VCall.fn{d:D}{ds:List D}{res:D}(h:VCall P d ds res): dfn d=some true:=by obtain⟨f,cs,rfl,_⟩:=h;rfl
theorem zVh{s:SV}{f:FuncId}(h:s=.clo f []): Co η s (.clo f []):=by rw[h];exact⟨rfl,rfl⟩
theorem PD_c{i:Nat}{f:FuncId}{r:List (Nat×Operand)}{s:List (Nat×D)}(h:oval σ x=.clo f [])(hr:zGs η σ r s): zGs η σ ((i,x)::r) ((i,.clo f [])::s) :=
 ⟨by simp,zVh h,rfl,hr⟩
theorem zG1{P:Program}(w:World)(d:Nat)(t:TypeId){ps rs:Array TypeId}{v:Bool}(fn:Fn)(a b:Array Value)(h:P.underlying t=some (.func ps rs v)):
  (Op.equalIn (d+1) t .nilFunc .nilFunc).run P w=.ok true w/\(Op.equalIn (d+1) t (.func fn a b) .nilFunc).run P w=.ok false w:=by
 constructor <;> simp[Op.equalIn,run_underlying h]
theorem zEG{P:Program}(w:World)(t:TypeId){ps rs:Array TypeId}{v:Bool}(fn:Fn)(a b:Array Value)(h:P.underlying t=some (.func ps rs v)):
  (binOp .eql t .nilFunc .nilFunc).run P w=.ok (.bool true) w/\(binOp .eql t (.func fn a b) .nilFunc).run P w=.ok (.bool false) w/\
  (binOp .neq t .nilFunc .nilFunc).run P w=.ok (.bool false) w/\(binOp .neq t (.func fn a b) .nilFunc).run P w=.ok (.bool true) w:=by
 obtain⟨h1,h2⟩:=zG1 w 9999 t fn a b h
 refine⟨?_,?_,?_,?_⟩ <;> simp only[binOp] <;> simp[Op.equal,Op.maxDepth,h1,h2]
def fnTy(P:Program)(t:TypeId): Bool:=match P.underlying t with
 |some (.func _ _ _)=>true
 |_=>false
theorem zKQ{P:Program}{t:TypeId}(h:fnTy P t=true): ∃ps rs v,P.underlying t=some (.func ps rs v):=by
 unfold fnTy at h
 split at h
 ·rename_i ps rs v hu;exact⟨ps,rs,v,hu⟩
 ·cases h
theorem zP5{St:Stab}{w:World}{v:Value}{d:D}{b:Bool}(h:RepD St w v d)(hd:dfn d=some b): (b=false/\v=.nilFunc)\/(b=true/\∃fn p q,v=.func fn p q):=by
 unfold dfn at hd
 split at hd
 ·injection hd with hd;subst hd;exact .inl ⟨rfl,RepD.val_eq h⟩
 ·injection hd with hd;subst hd;exact .inr ⟨rfl,_,_,_,RepD.val_eq h⟩
 ·injection hd with hd;subst hd
  cases h with
  |clo f vs ds hl h=>exact .inr ⟨rfl,_,_,_,rfl⟩
 ·cases hd
theorem zSq{d:D}{b:Bool}(hx:oval σ x=.d d)(hd:dfn d=some b)(hy:oval σ y=.d (.val .nilFunc))(hu:fnTy P t=true): Ylds P η σ ⟨dst,.binOp .eql t x y yt,ty,pos,after,gd⟩ (.d (.val (.bool (!b)))):=by
 obtain⟨ps,rs,v,hu⟩:=zKQ hu
 refine Ylds.same fun g w a hi h=>⟨.bool (!b),?_,.val _⟩
 have h1:=h x (by simp[Op.operands]);rw[hx]at h1
 have h2:=h y (by simp[Op.operands]);rw[hy]at h2
 rcases zP5 h1 hd with⟨rfl,hv⟩|⟨rfl,fn,p,q,hv⟩
 ·have:=(zEG (P:=P) w t (.func 0) #[] #[] hu).1
  simp[execOp,hv,RepD.val_eq h2,eqGuard,this]
 ·have:=(zEG (P:=P) w t fn p q hu).2.1
  simp[execOp,hv,RepD.val_eq h2,eqGuard,this]
theorem zQZ{d:D}{b:Bool}(hx:oval σ x=.d d)(hd:dfn d=some b)(hy:oval σ y=.d (.val .nilFunc))(hu:fnTy P t=true): Ylds P η σ ⟨dst,.binOp .neq t x y yt,ty,pos,after,gd⟩ (.d (.val (.bool b))):=by
 obtain⟨ps,rs,v,hu⟩:=zKQ hu
 refine Ylds.same fun g w a hi h=>⟨.bool b,?_,.val _⟩
 have h1:=h x (by simp[Op.operands]);rw[hx]at h1
 have h2:=h y (by simp[Op.operands]);rw[hy]at h2
 rcases zP5 h1 hd with⟨rfl,hv⟩|⟨rfl,fn,p,q,hv⟩
 ·have:=(zEG (P:=P) w t (.func 0) #[] #[] hu).2.2.1
  simp[execOp,hv,RepD.val_eq h2,eqGuard,this]
 ·have:=(zEG (P:=P) w t fn p q hu).2.2.2
  simp[execOp,hv,RepD.val_eq h2,eqGuard,this]
end
section
variable {C:Ctx}{σ:Sl}{η:List Ob}
theorem Abs.boxRef{a:Act}{w:World}(id:Nat){kb:Option Nat}{et:Option TypeId}{ds:List D}(k:Nat){f:FuncId}(hk:get σ k=.clo f [id])(ho:η[id]?=some (.bx kb et (ds.map .d)))(hro:C.ro<=id)(h:Abs C σ η a w):
  Abs C ((k,.d (.clo f [.ref ds]))::σ) (η.set id .gone) a w:=by
 obtain⟨g,ha⟩:=h
 have hidl:id<η.length:=(qAA.1 ho).1
 obtain⟨b,e,us,o1,o2,o3,o4,o5,o6,o7⟩:=ha.inv.ob id _ ho
 have hbl:=ha.inv.lt id b o1
 let g':Gh:={ g with St:=fun b' o=>g.St b' o\/(b'=b/\o<us.size) }
 have kp:Keep g.St w g'.St w:=⟨fun _ _ h=>.inl h,fun _ _ _ _ h=>h,fun _ _=>rfl⟩
 have re:∀{v:Value} {s:SV},RepS g w v s->RepS g' w v s:=fun r=>r.ext kp (fun _ _=>⟨rfl,rfl,rfl⟩) (qAM _)
 have lt:∀b o,g'.St b o->b<w.heap.size:=fun b' o hb=>by
  rcases hb with hb|⟨rfl,_⟩
  ·exact ha.inv.st b' o hb
  ·exact hbl
 refine⟨g',ha.defers,ha.size,⟨by rw[qAo];exact ha.inv.n,ha.inv.lt,ha.inv.dead,ha.inv.inj,fun i o hi=>?_,lt,ha.inv.gl.keep kp⟩,ha.os,ha.tape,ha.output,ha.wsize,ha.heap,ha.keep.trans kp,fun b' o hb=>?_,ha.own,fun t=>?_⟩
 ·rw[qAb]at hi
  split at hi
  ·injection hi with hi;subst hi;trivial
  ·rename_i hne
   refine(ha.inv.ob i o hi).ext kp (fun _ _=>⟨rfl,rfl,rfl⟩) (qAM _) (by rw[ha.inv.n];exact(qAA.1 hi).1) (fun b' hb=>⟨rfl,fun o=>⟨fun ho'=>?_,fun h=>.inl h⟩⟩)
   rcases ho' with h1|⟨h1,_⟩
   ·exact h1
   ·rw[h1]at hb
    exact absurd (ha.inv.inj i id b hb o1) (fun h=>hne h.symm)
 ·rcases hb with hb|⟨rfl,_⟩
  ·exact ha.new b' o hb
  ·exact(ha.own id b' o1 hro).elim (fun h=>.inr (.inl h)) (fun h=>.inr (.inr h))
 ·rw[zA7]
  split
  ·rename_i hc;subst hc
   have hkr:=ha.rep k;rw[hk]at hkr
   obtain⟨vs,hv,hl,hvs⟩:=hkr
   rw[hv]
   match vs,hl,hvs with
   |[u],_,hvs =>
    obtain⟨_,b2,hb2,rfl⟩:=hvs 0 id u rfl rfl
    rw[o1]at hb2;injection hb2 with hb2;subst hb2
    have hul:us.toList.length=ds.length:=by rw[qAS,o3,qAK]
    refine .clo f [_] [_] rfl fun j u d hu hd=>?_
    match j,hu,hd with
    |0,hu,hd =>
     simp at hu hd;subst hu;subst hd
     refine .ref _ us.toList ds hul (fun u hu=>o4 u (by simpa using hu)) (fun j u hu=>⟨?_,?_⟩) fun j u d hu hd=>?_
     ·have:=(qAA.1 hu).1
      exact .inr ⟨rfl,by simpa using this⟩
     ·rw[Addr.add_lit,qAU,cell_of_row w b j us e (0,0) o2];simpa using hu
     ·exact(o5 j u (.d d) (by simpa using hu) (by rw[qAG,hd];rfl)).keep kp
    |j+1,hu,_=>simp at hu
  ·exact re (ha.rep t)
theorem zNv{Q:Exit->Sl->List Ob->Prop}{c:Code}(id k:Nat){kb:Option Nat}{et:Option TypeId}{ds:List D}{f:FuncId}(hk:get σ k=.clo f [id])(ho:η[id]?=some (.bx kb et (ds.map .d)))(hro:Nat.ble C.ro id=true)
  (h:awp C c Q ((k,.d (.clo f [.ref ds]))::σ) (η.set id .gone)):awp C c Q σ η:=by
 intro R hR a w hab
 exact h R hR a w (hab.boxRef id k hk ho (qAH hro))
end
section
variable {κ:Type}[DecidableEq κ]{enc:κ->Value}
def delK{κ:Type}[DecidableEq κ]: List (κ×D)->κ->List (κ×D)
 |[],_=>[]
 |(k,d)::r,a=>if k=a then r else(k,d)::delK r a
theorem zHz: ∀{L:List (κ×D)} {a:κ} {d:D},zC6 L a=some d->delK L a=L.eraseIdx (idxK L a)
 |[],a,d,h=>by cases h
 |(k,x)::r,a,d,h=>by
  unfold zC6 at h
  unfold delK idxK
  split at h
  ·rename_i hk;rw[if_pos hk,if_pos hk];rfl
  ·rename_i hk;rw[if_neg hk,if_neg hk,List.eraseIdx_cons_succ,zHz h]
theorem zH0: ∀{L:List (κ×D)} {a:κ},zC6 L a=none->delK L a=L
 |[],a,h=>rfl
 |(k,x)::r,a,h=>by
  unfold zC6 at h
  unfold delK
  split at h
  ·cases h
  ·rename_i hk;rw[if_neg hk,zH0 h]
omit [DecidableEq κ] in
theorem zLL{g:Gh}{w:World}{id:Nat}{q:Bool}{kb:Option Nat}{L:List (κ×D)}(h:ObOk g w id (.mapq q kb (kvs enc L))): ∃b es ck,g.blk id=some b/\w.heap[b]?=some (.map es ck)/\es.toList.length=L.length/\
  (∀(j:Nat) e p,es.toList[j]?=some e->L[j]?=some p->e.key=enc p.1)/\(∀(j:Nat) e p,es.toList[j]?=some e->L[j]?=some p->RepD g.St w e.val p.2)/\∀o,¬g.St b o:=by
 obtain⟨b,es,ck,h1,h2,h3,h4,h5,_⟩:=h
 rw[zHf]at h3
 refine⟨b,es,ck,h1,h2,by simpa using h3,fun j e p he hp=>?_,fun j e p he hp=>?_,h5⟩
 ·exact(h4 j e (enc p.1,p.2) (by simpa using he) (by rw[zGY,hp];rfl)).1
 ·exact(h4 j e (enc p.1,p.2) (by simpa using he) (by rw[zGY,hp];rfl)).2
theorem zO6{P:Program}{t:TypeId}{g:Gh}{w:World}{id k e:Nat}{q:Bool}{kb:Option Nat}{L:List (κ×D)}{zd:D}(h:ObOk g w id (.mapq q kb (kvs enc L)))(ht:zEM P t=some (k,e))(hk:KeyOk P k enc)(hz:zHK P e=some zd)(a:κ)(c:Bool):
  ∃b v,g.blk id=some b/\(Instr.lookup t (.map (some b)) (enc a) c).run P w=.ok (if c then .tuple #[v,.bool (zC6 L a).isSome]else v) w/\RepD g.St w v ((zC6 L a).getD zd):=by
 obtain⟨b,es,ck,h1,h2,h3,h4,h5,_⟩:=zLL h
 obtain⟨kind,k1,k2,k3,k4⟩:=hk.ex
 obtain⟨z,z1,z2⟩:=zJk hz
 have hck:=MapKept.run_checkKey (w:=w) k1 (k2 a) es.isEmpty 9999
 rcases zEW k3 a es.toList L 0 h3 h4 with⟨f1,f2⟩|⟨e0,d0,f1,f2,f3⟩
 ·refine⟨b,z,h1,?_,by rw[f1];exact z2 _ _⟩
  simp only[Instr.lookup,Sem.run_bind,run_underlying (zCl ht),MapKept.run_getObj_map h2,hck,MapKept.run_findKey k1 f2,z1,f1,Result.andThen,Sem.run_pure]
  cases c <;> rfl
 ·have hp:=(zDu f2).1
  refine⟨b,e0.val,h1,?_,by rw[f2];exact h5 _ _ _ f1 hp⟩
  simp only[Instr.lookup,Sem.run_bind,run_underlying (zCl ht),MapKept.run_getObj_map h2,hck,MapKept.run_findKey k1 f3,f2,Result.andThen,Sem.run_pure]
  cases c <;> rfl
end
section
variable {P:Program}{η:List Ob}{σ:Sl}{dst:Option Nat}{ty:TypeId}{pos:String}{after:Array Edge}{gd:Option (Nat×Bool)}{t:TypeId}{x y:Operand}
theorem zSN{id k e:Nat}{q:Bool}{kb:Option Nat}{L:List (List UInt8×D)}{a:List UInt8}{zd:D}(hx:oval σ x=.mp id)(ho:η[id]?=some (.mapq q kb (kvs (fun l=>.string ⟨l.toArray⟩) L)))(hy:oval σ y=.d (str a))(ht:zEM P t=some (k,e))(hk:P.underlying k=some .string)(hz:zHK P e=some zd):
  Ylds P η σ ⟨dst,.lookup t x y false,ty,pos,after,gd⟩ (.d ((zC6 L a).getD zd)):=by
 refine Ylds.same fun g w ac hi h=>?_
 have h1:=h x (by simp[Op.operands]);rw[hx]at h1
 have h2:=h y (by simp[Op.operands]);rw[hy]at h2
 obtain⟨_,b,hb,hv⟩:=h1
 obtain⟨b',v,hb',hr,hd⟩:=zO6 (hi.ob id _ ho) ht (zEv hk) hz a false
 rw[hb]at hb';injection hb' with hb';subst hb'
 exact⟨v,by simp only[execOp,hv,RepD.val_eq h2,Sem.run_bind,hr];rfl,hd⟩
end
section
variable {C:Ctx}{ops:Array Oper}{rest:List Oper}{K:Sl->List Ob->Prop}{σ:Sl}{η:List Ob}{d:Nat}{ty:TypeId}{pos:String}{after:Array Edge}{gd:Option (Nat×Bool)}{t:TypeId}{x y z:Operand}
theorem zUC{g:Gh}{a:Act}{w:World}(ha:AbsG C g σ η a w)(hd:Nat.blt d C.N=true)(hro:C.ro<=η.length):
  Abs C ((d,.mp η.length)::σ) (η++[.mapq false none []]) (a.put (some d) (.map (some w.heap.size))) (w.alloc (.map #[] 0)) :=
 ha.allocOb _ _ _ _ hd hro fun g' hn hb _ _ hst=>⟨⟨w.heap.size, #[],0,hb,_root_.Go.heap_alloc_new w _,rfl,fun j e p he=>by simp at he,hst,fun _ h=>(by cases h),fun h=>by cases h⟩,by show η.length<g'.n;rw[hn,ha.inv.n];omega,w.heap.size,by rw[<-ha.inv.n];exact hb,rfl⟩
theorem zN1{k e:Nat}(_ht:zEM C.P t=some (k,e))(_hk:C.P.underlying k=some .string)(hd:Nat.blt d C.N=true)(hro:Nat.ble C.ro η.length=true)(h:alex C false ops rest K ((d,.mp η.length)::σ) (η++[.mapq false none (kvs (fun l:List UInt8=>.string ⟨l.toArray⟩) [])])):
  zA3 C false ops ⟨some d,.makeMap t none,ty,pos,after,gd⟩ rest K σ η :=
 zG3 (fun _ _ _ ha=>⟨_,_,rfl,zUC ha hd (qAH hro)⟩) h
section
variable {κ:Type}[DecidableEq κ]{enc:κ->Value}
omit [DecidableEq κ] in
theorem AbsG.setMapQ{g:Gh}{a:Act}{w:World}(ha:AbsG C g σ η a w){id b:Nat}{q:Bool}{kb:Option Nat}{L L':List (κ×D)}{es':Array MapEntry}(ck:Nat)(ho:η[id]?=some (.mapq q kb (kvs enc L)))(hb:g.blk id=some b)(hro:C.ro<=id)
  (hsz:es'.size=L'.length) (hes:∀(j:Nat) e p,es'[j]?=some e->L'[j]?=some p->e.key=enc p.1/\RepD g.St w e.val p.2) :
  AbsG C g σ (η.set id (.mapq false kb (kvs enc L'))) a { w with heap:=w.heap.setIfInBounds b (.map es' ck) }:=by
 obtain⟨b',es,ck0,h1,h2,h3,h4,h5,h6,_⟩:=ha.inv.ob id _ ho
 rw[hb]at h1;injection h1 with h1;subst h1
 have hbl:=ha.inv.lt id b hb
 refine ha.setObj (qAA.1 ho).1 hb hro h5 rfl rfl rfl (by simp) (fun k hk=>by simp[Array.getElem?_setIfInBounds_ne (fun e=>hk e.symm)]) fun kp=>⟨b,es',ck,hb,by simp[hbl],by rw[zHf];exact hsz,fun j e p he hp=>?_,h5,h6,fun h=>by cases h⟩
 rw[zGY]at hp
 cases hq:L'[j]? with
 |none=>simp[hq]at hp
 |some p0 =>
  simp[hq]at hp;subst hp
  obtain⟨q2,q3⟩:=hes j e p0 he hq
  exact⟨q2,q3.keep kp⟩
theorem zSG{id k e:Nat}{q:Bool}{kb:Option Nat}{L:List (κ×D)}{a:κ}{dv:D}(hx:oval σ x=.mp id)(ho:η[id]?=some (.mapq q kb (kvs enc L)))(hy:oval σ y=.d (.val (enc a)))(hz:Co η (oval σ z) dv)(ht:zEM C.P t=some (k,e))(hk:KeyOk C.P k enc)(hro:Nat.ble C.ro id=true)
  (h:alex C false ops rest K σ (η.set id (.mapq false kb (kvs enc (putK L a dv))))):zA3 C false ops ⟨none,.mapUpdate t x y z,ty,pos,after,gd⟩ rest K σ η:=by
 refine zMj (fun g ac w ha=>?_) h
 have h1:=ha.eval x;rw[hx]at h1
 have h2:=ha.eval y;rw[hy]at h2
 have hzr:=hz.rep ha.inv (ha.eval z)
 obtain⟨_,b,hb,hv⟩:=h1
 obtain⟨b',es,ck,m1,m2,m3,m4,m5,m6⟩:=zLL (ha.inv.ob id _ ho)
 rw[hb]at m1;injection m1 with m1;subst m1
 obtain⟨kind,k1,k2,k3,k4⟩:=hk.ex
 have hck:=MapKept.run_checkKey (w:=w) k1 (k2 a) false 9999
 have m3':es.size=L.length:=by simpa using m3
 rcases zEW k3 a es.toList L 0 m3 m4 with⟨f1,f2⟩|⟨e0,d0,f1,f2,f3⟩
 ·obtain⟨q1,q2,q3⟩:=zGX f1
  have hset:=ha.setMapQ (L':=L++[(a,dv)]) (es':=es.push { key:=enc a,val:=ac.eval z,born:=ck }) (ck+1) ho hb (qAH hro) (by simp[m3']) (fun j e p he hp=>by
   rw[Array.getElem?_push]at he
   split at he
   ·rename_i hj
    injection he with he;subst he
    rw[hj,m3',qAC (qAM _)]at hp
    simp at hp;subst hp
    exact⟨rfl,hzr⟩
   ·rename_i hj
    have hjl:j<L.length:=by have:=(qAg.1 he).1;omega
    rw[qAD hjl]at hp
    have he':es.toList[j]?=some e:=by simpa using he
    exact⟨m4 j e p he' hp,m5 j e p he' hp⟩)
  refine⟨_,?_,g,by rw[q2];exact hset⟩
  simp only[execOp,hv,RepD.val_eq h2,Sem.run_bind,Instr.mapUpdate,run_underlying (zCl ht),MapKept.run_getObj_map m2,hck,MapKept.run_findKey k1 f2,MapKept.run_setObj_map _ m2,Result.andThen,Sem.run_pure]
 ·obtain⟨q1,q2⟩:=zDu f2
  have hil:idxK L a<L.length:=(qAA.1 q1).1
  have hkey:e0.key=enc a:=m4 _ _ _ f1 q1
  have f1':es[idxK L a]?=some e0:=by simpa using f1
  have hset:=ha.setMapQ (L':=L.set (idxK L a) (a,dv)) (es':=es.modify (idxK L a) fun e=>{ e with key:=enc a,val:=ac.eval z }) ck ho hb (qAH hro) (by simp[m3']) (fun j e p he hp=>by
   rw[Array.getElem?_modify]at he
   rw[qAb]at hp
   split at he
   ·rename_i hj
    subst hj
    rw[if_pos rfl,if_pos hil]at hp
    rw[f1']at he
    simp at he hp;subst he;subst hp
    exact⟨rfl,hzr⟩
   ·rename_i hj
    rw[if_neg hj]at hp
    have he':es.toList[j]?=some e:=by simpa using he
    exact⟨m4 j e p he' hp,m5 j e p he' hp⟩)
  refine⟨_,?_,g,by rw[q2];exact hset⟩
  rw[qAU]at f3
  have hst:(Instr.keyThatStays (((es[idxK L a]?).map (·.key)).getD (enc a)) (enc a)).run C.P w=.ok (enc a) w:=by
   rw[f1'];simp only[qAy,qBP,hkey];exact zJ0 (k4 a)
  simp only[execOp,hv,RepD.val_eq h2,Sem.run_bind,Instr.mapUpdate,run_underlying (zCl ht),MapKept.run_getObj_map m2,hck,MapKept.run_findKey k1 f3,hst,MapKept.run_setObj_map _ m2,Result.andThen,Sem.run_pure]
end
theorem zKz{id k e:Nat}{q:Bool}{kb:Option Nat}{L:List (List UInt8×D)}{a:List UInt8}{dv:D}(hx:oval σ x=.mp id)(ho:η[id]?=some (.mapq q kb (kvs (fun l=>.string ⟨l.toArray⟩) L)))(hy:oval σ y=.d (str a))(hz:Co η (oval σ z) dv)(ht:zEM C.P t=some (k,e))(hk:C.P.underlying k=some .string)(hro:Nat.ble C.ro id=true)
  (h:alex C false ops rest K σ (η.set id (.mapq false kb (kvs (fun l:List UInt8=>.string ⟨l.toArray⟩) (putK L a dv))))):zA3 C false ops ⟨none,.mapUpdate t x y z,ty,pos,after,gd⟩ rest K σ η :=
 zSG hx ho hy hz ht (zEv hk) hro h
section
variable {κ:Type}[DecidableEq κ]{enc:κ->Value}
theorem zSH{id k e:Nat}{q:Bool}{kb:Option Nat}{L:List (κ×D)}{a:κ}{ts:Array TypeId}(hx:oval σ x=.mp id)(ho:η[id]?=some (.mapq q kb (kvs enc L)))(hy:oval σ y=.d (.val (enc a)))(hts:ts[0]?=some t)(ht:zEM C.P t=some (k,e))(hk:KeyOk C.P k enc)(hro:Nat.ble C.ro id=true)
  (h:alex C false ops rest K σ (η.set id (.mapq false kb (kvs enc (delK L a))))):zA3 C false ops ⟨none,.call ⟨.builtin .delete, #[x,y],ts⟩,ty,pos,after,gd⟩ rest K σ η:=by
 refine zG3 (fun g ac w ha=>?_) h
 have h1:=ha.eval x;rw[hx]at h1
 have h2:=ha.eval y;rw[hy]at h2
 obtain⟨_,b,hb,hv⟩:=h1
 obtain⟨b',es,ck,m1,m2,m3,m4,m5,m6⟩:=zLL (ha.inv.ob id _ ho)
 rw[hb]at m1;injection m1 with m1;subst m1
 obtain⟨kind,k1,k2,k3,k4⟩:=hk.ex
 have hck:=MapKept.run_checkKey (w:=w) k1 (k2 a) es.isEmpty 9999
 have m3':es.size=L.length:=by simpa using m3
 have hrun:∀(r:Option (Nat×Value)),Instr.findNow kind (enc a) es.toList 0=some r->(execOp ac.eval ⟨none,.call ⟨.builtin .delete, #[x,y],ts⟩,ty,pos,after,gd⟩).run C.P w=.ok (.value (.tuple #[])) { w with heap:=w.heap.setIfInBounds b (.map (match r with|some (i,_)=>es.eraseIdxIfInBounds i|none=>es) ck) }:=fun r hr=>by
  cases r with
  |none =>
   simp[execOp,resolve,invoke,builtin,Builtin.delete_,hts,run_underlying (zCl ht),hv,RepD.val_eq h2,MapKept.run_getObj_map m2,hck,MapKept.run_findKey k1 hr,MapKept.run_setObj_map _ m2,Result.andThen]
  |some p =>
   obtain⟨i,v⟩:=p
   simp[execOp,resolve,invoke,builtin,Builtin.delete_,hts,run_underlying (zCl ht),hv,RepD.val_eq h2,MapKept.run_getObj_map m2,hck,MapKept.run_findKey k1 hr,MapKept.run_setObj_map _ m2,Result.andThen]
 rcases zEW k3 a es.toList L 0 m3 m4 with⟨f1,f2⟩|⟨e0,d0,f1,f2,f3⟩
 ·have hset:=ha.setMapQ (L':=delK L a) (es':=es) ck ho hb (qAH hro) (by rw[zH0 f1];exact m3') (fun j e p he hp=>by
   rw[zH0 f1]at hp
   have he':es.toList[j]?=some e:=by simpa using he
   exact⟨m4 j e p he' hp,m5 j e p he' hp⟩)
  exact⟨_,_,hrun none f2,_,hset⟩
 ·obtain⟨q1,q2⟩:=zDu f2
  have hil:idxK L a<L.length:=(qAA.1 q1).1
  rw[qAU]at f3
  have hil2:idxK L a<es.size:=by omega
  have htl:(es.eraseIdxIfInBounds (idxK L a)).toList=es.toList.eraseIdx (idxK L a):=by
   simp[Array.eraseIdxIfInBounds,hil2]
  have hset:=ha.setMapQ (L':=delK L a) (es':=es.eraseIdxIfInBounds (idxK L a)) ck ho hb (qAH hro) (by rw[<-qAS,htl,zHz f2,List.length_eraseIdx_of_lt hil,List.length_eraseIdx_of_lt (by simpa using hil2),m3]) (fun j e p he hp=>by
   rw[zHz f2,List.getElem?_eraseIdx]at hp
   rw[<-qAr,htl,List.getElem?_eraseIdx]at he
   split at he
   ·rename_i hj
    rw[if_pos hj]at hp
    exact⟨m4 j e p he hp,m5 j e p he hp⟩
   ·rename_i hj
    rw[if_neg hj]at hp
    exact⟨m4 (j+1) e p he hp,m5 (j+1) e p he hp⟩)
  exact⟨_,_,hrun (some _) f3,_,hset⟩
end
theorem zQU{id k e:Nat}{q:Bool}{kb:Option Nat}{L:List (List UInt8×D)}{a:List UInt8}{ts:Array TypeId}(hx:oval σ x=.mp id)(ho:η[id]?=some (.mapq q kb (kvs (fun l=>.string ⟨l.toArray⟩) L)))(hy:oval σ y=.d (str a))(hts:ts[0]?=some t)(ht:zEM C.P t=some (k,e))(hk:C.P.underlying k=some .string)(hro:Nat.ble C.ro id=true)
  (h:alex C false ops rest K σ (η.set id (.mapq false kb (kvs (fun l:List UInt8=>.string ⟨l.toArray⟩) (delK L a))))):zA3 C false ops ⟨none,.call ⟨.builtin .delete, #[x,y],ts⟩,ty,pos,after,gd⟩ rest K σ η :=
 zSH hx ho hy hts ht (zEv hk) hro h
end
end Go.Sx
namespace Go.Sx
open Go.RowKit
def segG(C:Ctx)(l:List Oper)(η:List Ob)(e:Nat)(η':List Ob)(F:SV->SV)(T:Sl->Sl): Nat->List Oper->List SV->Sl->Prop
 |j,o::r,s::ss,σ=>(j=e\/((Wants l.toArray σ o.guard true/\Ylds C.P η σ o s)/\zEP C.N o.dst/\(o.after.toList.all fun ed=>!Region.binds .any ed || !Nat.beq ed.on e)=true/\
   (zD1 l.toArray l.length e j=true\/(o.guard=none/\F s=s/\Ylds C.P η' (T σ) o s))))/\segG C l η e η' F T (j+1) r ss (put σ o.dst s)
 |_,_,_,_=>True
theorem zOb{C:Ctx}{l:List Oper}{η:List Ob}{e:Nat}{η':List Ob}{F:SV->SV}{T:Sl->Sl}(hT:∀τ t,get (T τ) t=F (get τ t)): ∀(r:List Oper) (ss:List SV) (j:Nat) (σ:Sl),segG C l η e η' F T j r ss σ->∀(i:Nat) o s,r[i]?=some o->ss[i]?=some s->
  j+i=e\/((Wants l.toArray (pst σ j r ss (fun m=>decide (m<j+i))) o.guard true/\Ylds C.P η (pst σ j r ss (fun m=>decide (m<j+i))) o s)/\zEP C.N o.dst/\(o.after.toList.all fun ed=>!Region.binds .any ed || !Nat.beq ed.on e)=true/\
   (zD1 l.toArray l.length e (j+i)=true\/(o.guard=none/\F s=s/\Ylds C.P η' (T (pst σ j r ss (fun m=>decide (m<j+i)))) o s)))
 |_,[],_,_,_,i,o,s,_,hs=>by simp at hs
 |[],_::_,_,_,_,i,o,s,ho,_=>by simp at ho
 |o::r,s::ss,j,σ,h,0,o',s',ho,hs=>by
  simp at ho hs;subst ho;subst hs
  have e0:∀t,get (pst σ j (o::r) (s::ss) (fun m=>decide (m<j+0))) t=get σ t:=by
   intro t
   have:=zB9 t (o::r) (s::ss) σ σ j (fun m=>decide (m<j+0)) (fun _=>false) rfl (fun i o' hi hne=>by simp at hne)
   rw[this,zEI]
  rcases h.1 with h1|⟨⟨h1,h2⟩,h3,h4,h5⟩
  ·exact .inl h1
  ·refine .inr ⟨⟨?_,h2.congr fun x _=>zDO (fun t=>(e0 t)) x⟩,h3,h4,?_⟩
   ·revert h1
    unfold Wants
    cases o.guard with
    |none=>exact id
    |some q =>
     rintro⟨t,h1,h2⟩
     exact⟨t,h1,by rw[e0];exact h2⟩
   ·rcases h5 with h5|⟨h5,h6,h7⟩
    ·exact .inl h5
    ·exact .inr ⟨h5,h6,h7.congr fun x _=>zDO (fun t=>by rw[hT,hT,e0]) x⟩
 |o::r,s::ss,j,σ,h,i+1,o',s',ho,hs=>by
  have:=zOb hT r ss (j+1) _ h.2 i o' s' (by simpa using ho) (by simpa using hs)
  have hj:j+(i+1)=j+1+i:=by omega
  have hd:decide (j<j+1+i)=true:=by simp;omega
  simp only[pst,hj,hd]
  exact this
theorem zKs{C:Ctx}{Q:Exit->Sl->List Ob->Prop}{σ:Sl}{η:List Ob}{id:Nat}{l:List Oper}(ss:List SV)(e:Nat){oe:Oper}{dE:Nat}{rs:SV}(F:SV->SV)(T:Sl->Sl)(η':List Ob)
  (hm:C.P.follows .mixedOrders=true) (hB:zEt l=true) (hle:l[e]?=some oe) (hdE:oe.dst=some dE) (hge:oe.guard=none) (hes:Nat.blt e ss.length=true) (hsl:Nat.ble ss.length l.length=true)
  (hbar:ss.length=l.length\/zGj l.toArray (l.length-ss.length-1)=true) (hT:∀τ t,get (T τ) t=F (get τ t)) (hs:segG C l η e η' F T 0 l ss σ)
  (hE:∀τ,(∀t,t∈oe.looksAt l.toArray->get τ t=get (pst σ 0 l ss (fun m=>decide (m<e))) t)->EStep C oe (fun σ' η''=>σ'=(dE,rs)::T τ/\η''=η') τ η)
  (h:alex C true l.toArray (l.drop ss.length) (Q .normal) ((dE,rs)::T (segσ l (ss.map .y) σ)) η'):awp C (.region id l.toArray true) Q σ η:=by
 intro R hR a w ⟨g,hg⟩
 have hes:=Nat.blt_eq.mp hes
 have hsl:=qAH hsl
 have hd0:Abs C σ η a { w with drawn:=w.drawn+1 }:=⟨g,hg.grow ⟨rfl,rfl,rfl,rfl,rfl,rfl,rfl,qAM _,fun _ _=>rfl,fun _ _ h=>h,fun _ _ h=>.inl h,hg.inv.st⟩⟩
 have hsv:(ss.map SegK.y).map SegK.sv=ss:=by rw[List.map_map];exact List.map_id ss
 have hat:=zOb hT l ss 0 σ hs
 have spec:=zD7 hB
 let I:(Nat->Bool)->Act->World->Prop:=fun f a w=>match f e with
  |true=>Abs C ((dE,rs)::T (pst σ 0 l ss f)) η' a w
  |false=>Abs C (pst σ 0 l ss f) η a w
 refine wp_region_any hm (zOC (C:=C) (K:=Q .normal) (fun σ' η' a w hk hab=>hR _ _ _ _ _ hk hab) hB ss.length hsl hbar I ?_ ?_ _ _ a _ (by simp) ?_ ?_ (fun i _ hi=>?_) ?_)
 ·intro f a w hf hI
  refine⟨_,_,h,?_⟩
  have he:=hf e hes
  simp only[I,he]at hI
  have:=zG7 l (ss.map .y) 0 σ f (fun i hi=>by rw[qAU];exact hf i (by simp at hi;omega))
  rw[hsv]at this
  rw[this]at hI;exact hI
 ·intro f j o a w hjm hlj hun hcl hdep hI
  obtain⟨s,hsj⟩:∃s,ss[j]?=some s:=⟨_,qAB hjm⟩
  have same:=zI4 (σ:=σ) (ss:=ss) hB hlj hun hcl hdep
  have next:=zI5 (σ:=σ) hB hlj hsj hun hcl
  by_cases hje:j=e
  ·
   subst hje
   rw[hle]at hlj;injection hlj with hlj;subst hlj
   simp only[I,hun]at hI
   refine .inl ⟨by unfold Region.wanted;rw[hge],?_⟩
   refine Oper.wp_mono ?_ (hE _ same _ a w hI)
   rintro a' w' ⟨σ',η'',⟨rfl,rfl⟩,hab⟩
   have hbeq:(j==j)=true:=by simp
   simp only[I,hbeq,Bool.true_or]
   refine hab.le fun t=>.inl ?_
   have hn2:=next t
   rw[hdE]at hn2
   simp only[put,zA7]at hn2 ⊢
   by_cases h5:dE=t
   ·rw[if_pos h5,if_pos h5]
   ·rw[if_neg h5]at hn2 ⊢
    rw[if_neg h5,hT,hT,hn2]
  ·
   rcases hat j o s hlj hsj with h0|⟨⟨hw,hy⟩,hdst,hind,hfl⟩
   ·omega
   rw[qAU]at hw hy hfl
   have hne:(e==j)=false:=by simp;omega
   cases he:f e with
   |false =>
    simp only[I,he]at hI
    obtain⟨g,h1⟩:=hI
    have hI':∀a' w',Abs C (put (pst σ 0 l ss f) o.dst s) η a' w'->I (fun i=>i==j||f i) a' w':=fun a' w' hab=>by
     simp only[I,hne,he,Bool.or_false];exact hab.le fun t=>.inl (next t).symm
    refine .inl ⟨hw.wanted (g:=g) (w:=w) fun t q b hgd ht=>by rw[<-same t (zEj hgd ht)];exact h1.rep t,?_⟩
    have hy':Ylds C.P η (pst σ 0 l ss f) o s:=hy.congr fun x hx=>by
     cases x with
     |tmp t=>exact same t (zBf hx)
     |_=>rfl
    exact hy'.wp hdst hI' h1
   |true =>
    simp only[I,he]at hI
    obtain⟨g,h1⟩:=hI
    have hcl':∀j o,l.toArray[j]?=some o->f j=true->∀e∈o.after,Region.binds .any e=true->f e.on=true:=fun j o ho=>hcl j o (by simpa using ho)
    have hnr:zD1 l.toArray l.length e j=false:=by
     cases hr:zD1 l.toArray l.length e j with
     |false=>rfl
     |true =>
      have:=zB5 hcl' l.length e _ (by simpa using hle) (fun e' hm hb=>hcl _ _ hle he e' hm hb) hr
      rw[hun]at this;cases this
    rcases hfl with h2|⟨h2,h3,h4⟩
    ·rw[hnr]at h2;cases h2
    ·
     have hap:(∀d,o.dst=some d->d≠dE)/\∀t,t∈o.looksAt l.toArray->dE≠t:=by
      rcases qAI j e with hj|hj
      ·rcases(spec e _ hle).2.2 j o hj hlj with⟨ed,hm,hb,hon⟩|hap
       ·have:=hcl _ _ hle he ed hm hb
        rw[hon,hun]at this;cases this
       ·obtain⟨p1,p2,p3⟩:=Oper.apart_spec hap
        exact⟨fun d hd hq=>p2 d hd (by rw[hdE,hq]),fun t ht hq=>p3 dE hdE (by rw[hq];exact ht)⟩
      ·rcases(spec j _ hlj).2.2 e oe (by omega) hle with⟨ed,hm,hb,hon⟩|hap
       ·have:=qAF.1 hind ed (by simpa using hm)
        rw[hb,hon]at this
        simp at this
       ·obtain⟨p1,p2,p3⟩:=Oper.apart_spec hap
        exact⟨fun d hd hq=>p2 dE hdE (by rw[hd,hq]),fun t ht hq=>p1 dE hdE (by rw[hq];exact ht)⟩
     have same':∀t,t∈o.looksAt l.toArray->get ((dE,rs)::T (pst σ 0 l ss f)) t=get (T (pst σ 0 l ss (fun m=>decide (m<j)))) t:=fun t ht=>by
      rw[zA7,if_neg (hap.2 t ht),hT,hT,same t ht]
     refine .inl ⟨by unfold Region.wanted;rw[h2],?_⟩
     have hy':Ylds C.P η' ((dE,rs)::T (pst σ 0 l ss f)) o s:=h4.congr fun x hx=>by
      cases x with
      |tmp t=>exact same' t (zBf hx)
      |_=>rfl
     refine hy'.wp hdst (fun a' w' hab=>?_) h1
     simp only[I,hne,he,Bool.or_true]
     refine hab.le fun t=>.inl ?_
     have hn2:=next t
     cases hdd:o.dst with
     |none =>
      rw[hdd]at hn2
      simp only[put,zA7]at hn2 ⊢
      split
      ·rfl
      ·rw[hT,hT,hn2]
     |some d =>
      have hne2:d≠dE:=hap.1 d hdd
      rw[hdd]at hn2
      simp only[put,zA7]at hn2 ⊢
      by_cases h5:dE=t
      ·subst h5;rw[if_pos rfl,if_neg hne2,if_pos rfl]
      ·rw[if_neg h5,hT,<-hn2]
       by_cases h6:d=t
       ·rw[if_pos h6,if_pos h6,h3]
       ·rw[if_neg h6,if_neg h6,if_neg h5,hT]
 ·refine qAi (qBS _ _) (by simp)
 ·intro j o hj hl
  have hjl:j<l.length:=(qAA.1 hj).1
  rw[qAN,qAL (by simpa using hjl)]at hl
  simp at hl
 ·rw[qAN,qAL (by simpa using hi)]
  simp
 ·have hf0:∀i,i<l.length->(Array.replicate l.toArray.size false).getD i true=false:=fun i hi=>by
   rw[qAN,qAL (by simpa using hi)];simp
  simp only[I,hf0 _ (qAV hes hsl)]
  refine hd0.le fun t=>.inl ?_
  rw[zB9 t l ss σ σ 0 _ (fun _=>false) rfl (fun i o hi hne=>?_),zEI]
  rw[qAU,hf0 i (qAA.1 hi).1]at hne
  exact absurd rfl hne
theorem EStep.of{C:Ctx}{ops:Array Oper}{o:Oper}{J:Sl->List Ob->Prop}{σ:Sl}{η:List Ob}(h:zA3 C false ops o [] J σ η): EStep C o J σ η:=fun Q a w hab=>by
 have:=h (fun e a w=>match e with | .normal=>∃σ' η',J σ' η'/\Abs C σ' η' a w|e=>Q e a w) (fun σ' η' a w hk hab=>⟨σ',η',hk,hab⟩) a w hab (fun a w=>∃σ' η',J σ' η'/\Abs C σ' η' a w) (fun a w hw=>hw)
 exact zL0 (fun e a w hne hq=>by cases e <;> first|exact absurd rfl hne|exact hq) this
theorem zKq{C:Ctx}{Q:Exit->Sl->List Ob->Prop}{σ:Sl}{η:List Ob}{id:Nat}{l:List Oper}(ss:List SV)(e:Nat){fn:FuncId}{args:List Operand}{ts:Array TypeId}{dE:Nat}{ty:TypeId}{pos:String}{after:Array Edge}{as:List SV}{pre post:List Ob}{res:SV}(ids:List Nat)
  (hm:C.P.follows .mixedOrders=true) (hB:zEt l=true) (hle:l[e]?=some ⟨some dE,.call ⟨.value (.func fn),args.toArray,ts⟩,ty,pos,after,none⟩) (hes:Nat.blt e ss.length=true) (hsl:Nat.ble ss.length l.length=true)
  (hbar:ss.length=l.length\/zGj l.toArray (l.length-ss.length-1)=true)
  (hs:segG C l η e (zC9 (zDZ (zBO ids pre) ids η) ids (post.map (Ob.ren ids))) (SV.wipe (zBO ids pre) ids) (zEu (zBO ids pre) ids) 0 l ss σ)
  (hb:zAK C.P fn=true) (hc:zBD C.P fn as pre res post) (ha:SArgs (pst σ 0 l ss (fun m=>decide (m<e))) ids args as) (hp:Picks η ids pre) (hd:Nat.blt dE C.N=true)
  (hn:ids.Nodup) (hlen:ids.length=pre.length) (hu:zDa pre=true) (hbl:pre.all (Ob.below pre.length)=true) (hba:as.all (SV.bel pre.length)=true) (hk:zDN pre post=true) (hro:ids.all (fun i=>Nat.ble C.ro i)=true)
  (h:alex C true l.toArray (l.drop ss.length) (Q .normal) ((dE,res.ren ids)::zEu (zBO ids pre) ids (segσ l (ss.map .y) σ)) (zC9 (zDZ (zBO ids pre) ids η) ids (post.map (Ob.ren ids)))):awp C (.region id l.toArray true) Q σ η:=by
 refine zKs ss e (SV.wipe (zBO ids pre) ids) (zEu (zBO ids pre) ids) _ hm hB hle rfl rfl hes hsl hbar (zJK _ _) hs (fun τ hτ=>?_) h
 refine EStep.of (ops:=#[]) (zDf ids hb hc (ha.congr fun x hx=>?_) hp hd hn hlen hu hbl hba hk hro (zAD ⟨rfl,rfl⟩))
 cases x with
 |tmp t=>exact hτ t (zBf (by simp[Op.operands,Call.operands,hx]))
 |_=>rfl
theorem zQJ{C:Ctx}{Q:Exit->Sl->List Ob->Prop}{σ:Sl}{η:List Ob}{rid:Nat}{l:List Oper}(ss:List SV)(i:Nat){x y:Operand}{t:TypeId}{d:Nat}{ty:TypeId}{pos:String}{after:Array Edge}(id:Nat){n m e sz by':Nat}{mu:Bool}{xs ys:List D}
  (hmx:C.P.follows .mixedOrders=true) (hB:zEt l=true) (hle:l[i]?=some ⟨some d,.call ⟨.builtin .append, #[x,y], #[t,t]⟩,ty,pos,after,none⟩) (hes:Nat.blt i ss.length=true) (hsl:Nat.ble ss.length l.length=true)
  (hbar:ss.length=l.length\/zGj l.toArray (l.length-ss.length-1)=true)
  (hs:segG C l η i ((zD2 id η).set id (.buf mu e sz (xs++ys))) (SV.kill id) (zIC id) 0 l ss σ)
  (hx:oval (pst σ 0 l ss (fun m=>decide (m<i))) x=.buf id n) (ho:η[id]?=some (.buf mu e sz xs)) (hy:oval (pst σ 0 l ss (fun m=>decide (m<i))) y=.d (.slice ys)) (hn:n=xs.length) (hm:m=ys.length)
  (he:zBu C.P t=some e) (hsz:zBB C.P t=some sz) (hz:zDM C.P e=some sz) (hb:zDG C.P t=some by') (hd:Nat.blt d C.N=true) (hro:Nat.ble C.ro id=true) (hf:∀d∈ys,d.flat.length=sz) (hlen:(n+m)*by'<=140737488355328/\n+m<=140737488355328)
  (h:alex C true l.toArray (l.drop ss.length) (Q .normal) ((d,.buf id (n+m))::zIC id (segσ l (ss.map .y) σ)) ((zD2 id η).set id (.buf mu e sz (xs++ys)))):awp C (.region rid l.toArray true) Q σ η:=by
 refine zKs ss i (SV.kill id) (zIC id) _ hmx hB hle rfl rfl hes hsl hbar (zHC id) hs (fun τ hτ=>?_) h
 have op:∀z,z=x\/z=y->oval τ z=oval (pst σ 0 l ss (fun m=>decide (m<i))) z:=fun z hz=>by
  cases z with
  |tmp t=>exact hτ t (zBf (by simp[Op.operands,Call.operands];rcases hz with h|h <;> simp[h]))
  |_=>rfl
 exact EStep.of (ops:=#[]) (aApp (id:=id) ((op x (.inl rfl)).trans hx) ho (zAq ((op y (.inr rfl)).trans hy)) hn hm he hsz hz hb hd hro hf hlen (zAD ⟨rfl,rfl⟩))
section
variable {P:Program}{η:List Ob}{σ:Sl}{dst:Option Nat}{ty:TypeId}{pos:String}{after:Array Edge}{gd:Option (Nat×Bool)}{t:TypeId}{x y z:Operand}
theorem zUF{sz n:Nat}{k k':IntKind}{xs:List D}(hc:Co η (oval σ x) (.slice xs))(hs:zBB P t=some sz)(hhi:oval σ y=.d (.val (.int k (n:Int))))(hmx:oval σ z=.d (.val (.int k' (n:Int))))(hn:n=xs.length)(hf:∀d∈xs,d.flat.length=sz):
  Ylds P η σ ⟨dst,.slice t x none (some y) (some z),ty,pos,after,gd⟩ (.d (.tsl xs)):=by
 obtain⟨e,i,hu,hi',hsz⟩:=zBm hs
 refine Ylds.same fun g w a hi h=>?_
 have hr:=hc.rep hi (h x (by simp[Op.operands]))
 have hy:=h y (by simp[Op.operands]);rw[hhi]at hy
 have hz:=h z (by simp[Op.operands]);rw[hmx]at hz
 obtain⟨sa,cap,us,hv,hcp,hm,hul,h1,hcell,hr'⟩:=hr.open_slice hf
 subst hn
 refine⟨.slice sa xs.length xs.length,?_,.tsl sa xs.length xs (.slice sa xs.length xs.length sz xs us rfl (qAM _) (by omega) hf (by rw[hul,zBz hf]) h1 hcell hr')⟩
 simp only[execOp,hv,RepD.val_eq hy,RepD.val_eq hz,Sem.run_bind,Sem.run_pure,Option.map_none,qAy]
 have e1:(Instr.sliceAt t (.slice sa xs.length cap) none (some (Value.int k (xs.length:Int))) (some (Value.int k' (xs.length:Int)))).run P w=.ok (.slice sa xs.length xs.length) w:=by
  simp[Instr.sliceAt,Instr.slice,Instr.sliceBounds,Instr.sliceBound,run_underlying hu,sizeOf,typeInfo,hi',asIntOf,hcp,Int.ofNat_le]
  intro h
  cases sa with
  |none=>rfl
  |some ad=>simp[Addr.add_zero']
 rw[e1];rfl
theorem zQf{e sz by':Nat}{xs ys:List D}(hx:oval σ x=.d (.tsl xs))(hy:Co η (oval σ y) (.slice ys))(h0:Nat.blt 0 ys.length=true)
  (he:zBu P t=some e) (hs:zBB P t=some sz) (hz:zDM P e=some sz) (hb:zDG P t=some by') (hfx:∀d∈xs,d.flat.length=sz) (hf:∀d∈ys,d.flat.length=sz) (hlen:(xs.length+ys.length)*by'<=140737488355328/\xs.length+ys.length<=140737488355328) :
  Ylds P η σ ⟨dst,.call ⟨.builtin .append, #[x,y], #[t,t]⟩,ty,pos,after,gd⟩ (.d (.slice (xs++ys))):=by
 have h0:0<ys.length:=by simpa using h0
 obtain⟨e',i,hu,hi',hsz⟩:=zBm hs
 have:e'=e:=by have:=zCd he;rw[hu]at this;injection this with this;injection this
 subst this
 have hby:i.bytes=by':=by
  obtain⟨e2,i2,h1,h2,h3⟩:=zFA hb
  rw[hu]at h1;injection h1 with h1;injection h1 with h1;subst h1
  rw[hi']at h2;injection h2 with h2;subst h2;exact h3
 obtain⟨zv,hzz,hzs⟩:=zGp hi' hz
 intro g w a hi h
 have hxr:=h x (by simp[Op.operands,Call.operands]);rw[hx]at hxr
 obtain⟨sa,hxv,hxr⟩:∃sa,a.eval x=.slice sa xs.length xs.length/\RepD g.St w (.slice sa xs.length xs.length) (.slice xs):=by
  change RepD _ _ _ _ at hxr
  generalize a.eval x=v at hxr
  cases hxr with
  |tsl sa n xs h =>
   have:n=xs.length:=by cases h;assumption
   subst this;exact⟨sa,rfl,h⟩
 obtain⟨sa',cap',olds,hv',_,_,hol,ho1,hocell,horep⟩:=hxr.open_slice hfx
 injection hv' with hv1 hv2 hv3;subst hv1;subst hv3
 have hyr:=(hy.rep hi (h y (by simp[Op.operands,Call.operands]))).open_slice hf
 obtain⟨ya,yc,news,hyv,_,_,hnl,hn1,hncell,hnrep⟩:=hyr
 obtain⟨ad,rfl,hnc⟩:=hncell h0
 have hsrc:Src P i.size t (.slice (some ad) ys.length yc) ys.length news w:=Src.ofSlice w hu ad ys.length yc news (by rw[hnl,hsz]) (fun j u hj=>(hnc j u hj).2) hn1
 have hold:(Builtin.firstCells i.size xs.length (.slice sa xs.length xs.length)).run P w.drew=.ok olds.toArray w.drew:=by
  rcases Nat.eq_zero_or_pos xs.length with hz0|hz0
  ·have hon:olds=[]:=qAm (by rw[hol,hz0];simp)
   rw[hz0,hon]
   cases sa with
   |none=>exact run_firstCells_none w.drew i.size 0 0 0
   |some b=>exact run_firstCells_some w.drew i.size 0 b 0 0 [] (by simp) (fun j u hj=>by simp at hj)
  ·obtain⟨b,rfl,hbc⟩:=hocell hz0
   exact run_firstCells_some w.drew i.size xs.length b xs.length xs.length olds (by rw[hol,hsz]) (fun j u hj=>by simpa using(hbc j u hj).2)
 have hfit:Builtin.nextslicecap (xs.length+ys.length) xs.length*i.bytes<=281474976710656:=growslice_fits (by omega) (by rw[hby];exact hlen.1)
 have hrun:=run_append_grow_src (P:=P) w t t ty e' i zv hu hi' hzz sa xs.length xs.length olds hold _ _ _ hsrc (by omega) (by omega) hfit
 generalize hcells:(olds++news).toArray++Builtin.zeroCells zv.cells (grownCap w (xs.length+ys.length) xs.length e'-(xs.length+ys.length))=us' at hrun
 have hge:=grownCap_ge w (xs.length+ys.length) xs.length e'
 have hcm:=grownCap_le_maxLen w (xs.length+ys.length) xs.length e' (by simp only[maxLen];omega)
 have hat:∀j,j<(xs.length+ys.length)*sz->us'[j]?=(olds++news)[j]?:=fun j hj=>by
  rw[<-hcells,qAf (by simp only[qBD,qAO,hol,hnl];rw[<-qAw];exact hj)];simp
 have hcell:∀(j:Nat) (u:Value),(olds++news)[j]?=some u->(w.drew.alloc (.cells us' e')).cell? ⟨w.heap.size,j,none⟩=some u:=fun j u hj=>by
  have hjl:=(qAA.1 hj).1
  rw[qAO,hol,hnl,<-qAw]at hjl
  rw[cell_of_row _ w.heap.size j us' e' (0,0) (_root_.Go.heap_alloc_new w.drew _),hat j hjl];exact hj
 let g':Gh:={ g with St:=fun b o=>g.St b o\/(b=w.heap.size/\o<(xs.length+ys.length)*sz) }
 have hh:∀k,k<w.heap.size->(w.drew.alloc (.cells us' e')).heap[k]?=w.heap[k]?:=fun k hk=>Below.heap_alloc w.drew _ k hk
 have kp:Keep g.St w g'.St (w.drew.alloc (.cells us' e')):=⟨fun _ _ h=>.inl h,fun b o u hb hc=>(World.cell?_of_block (w:=w) (a:=⟨b,o,none⟩) (hh b (hi.st b o hb))).trans hc,fun b hb=>hh b (hi.st b 0 (hb 0))⟩
 refine .inl ⟨.slice (some ⟨w.heap.size,0,none⟩) (xs.length+ys.length) (grownCap w (xs.length+ys.length) xs.length e'),g',w.drew.alloc (.cells us' e'),?_,⟨rfl,rfl,rfl,rfl,rfl,rfl,rfl,by simp,hh,fun _ _ h=>.inl h,fun b o hb=>hb.imp_right fun h=>by rw[h.1];exact qAM _,fun b o hb=>?_⟩,?_⟩
 ·simp only[execOp,resolve,invoke,builtin,Sem.run_bind,Sem.run_pure,Result.andThen_ok,qAv,qBN,List.map_nil,hxv,hyv,hrun]
 ·rcases hb with hb|⟨rfl,_⟩
  ·exact qAV (hi.st b o hb) (by simp)
  ·simp
 ·refine .slice _ _ _ sz _ (olds++news) (by rw[qAO]) hge hcm (fun d hd=>?_) (by rw[zDc,qAO,qAO,zBz hfx,zBz hf,hol,hnl]) (fun u hm=>?_) (fun _=>⟨_,rfl,fun j u hj=>⟨?_,?_⟩⟩) (fun j u d hj hd=>?_)
  ·rcases qAx.1 hd with h|h
   ·exact hfx d h
   ·exact hf d h
  ·rcases qAx.1 hm with h|h
   ·exact ho1 u h
   ·exact hn1 u h
  ·have hjl:=(qAA.1 hj).1
   rw[qAO,hol,hnl,<-qAw]at hjl
   exact .inr ⟨rfl,by simpa using hjl⟩
  ·rw[Addr.add_lit,qAU];exact hcell j u hj
  ·rw[zDc]at hd
   refine RepD.keep kp ?_
   rcases qAI j olds.length with h1|h1
   ·rw[qAD h1]at hj
    rw[qAD (by rw[zBz hfx,<-hol];exact h1)]at hd
    exact horep j u d hj hd
   ·rw[qAC h1]at hj
    rw[qAC (by rw[zBz hfx,<-hol];exact h1)]at hd
    rw[zBz hfx,<-hol]at hd
    exact hnrep _ u d hj hd
end
def lowC(l:List Oper)(es:List Nat)(j:Nat): Nat:=(es.filter fun e=>zD1 l.toArray l.length j e).length
def zKm(l:List Oper): List Nat->Bool
 |[]=>true
 |e::r=>(r.all fun k=>Nat.blt e k&&zD1 l.toArray l.length k e)&&zKm l r
def idxC: List Nat->Nat->Option Nat
 |[],_=>none
 |e::r,j=>match Nat.beq e j with
  |true=>some 0
  |false=>(idxC r j).map (· + 1)
def YAll(C:Ctx)(σ:Sl)(o:Oper)(s:SV): List (List Ob)->Prop
 |[]=>True
 |η::r=>Ylds C.P η σ o s/\YAll C σ o s r
theorem YAll.get{C:Ctx}{σ:Sl}{o:Oper}{s:SV}: ∀{L:List (List Ob)},YAll C σ o s L->∀(i:Nat) (η:List Ob),L[i]?=some η->Ylds C.P η σ o s
 |_::_,h,0,η,hi=>by simp at hi;subst hi;exact h.1
 |_::_,h,i+1,η,hi=>YAll.get h.2 i η (by simpa using hi)
 |[],_,i,η,hi=>by simp at hi
theorem zKD: ∀(es:List Nat) (j i:Nat),idxC es j=some i->es[i]?=some j
 |e::r,j,i,h=>by
  unfold idxC at h
  split at h
  ·rename_i he;injection h with h;subst h;rw[qAW he];rfl
  ·cases hq:idxC r j with
   |none=>rw[hq]at h;cases h
   |some k =>
    rw[hq]at h;injection h with h;subst h
    exact(List.getElem?_cons_succ).trans (zKD r j k hq)
 |[],_,_,h=>by cases h
theorem zKE: ∀{es:List Nat} {j:Nat},idxC es j=none->j∉es
 |e::r,j,h=>by
  unfold idxC at h
  split at h
  ·cases h
  ·rename_i he
   cases hq:idxC r j with
   |none =>
    intro hm
    rcases qAs.1 hm with hm|hm
    ·subst hm;simp at he
    ·exact zKE hq hm
   |some k=>rw[hq]at h;cases h
 |[],_,_=>by simp
theorem zGE{l:List Oper}: ∀{es:List Nat},zKm l es=true->∀(a b:Nat) x y,a<b->es[a]?=some x->es[b]?=some y->x<y/\zD1 l.toArray l.length y x=true
 |e::r,h,0,b+1,x,y,_,hx,hy=>by
  simp only[zKm,qAP]at h
  simp at hx;subst hx
  have:=qAF.1 h.1 y (qAE (by simpa using hy))
  simp only[qAP]at this
  exact⟨by simpa using this.1,this.2⟩
 |e::r,h,a+1,b+1,x,y,hab,hx,hy=>by
  simp only[zKm,qAP]at h
  exact zGE h.2 a b x y (by omega) (by simpa using hx) (by simpa using hy)
 |_,_,_,0,_,_,hab,_,_=>by omega
 |[],_,_,_+1,_,_,_,hx,_=>by simp at hx
def cntC(es:List Nat)(f:Nat->Bool): Nat:=(es.filter f).length
theorem zR3{es:List Nat}{f:Nat->Bool}{j i:Nat}(hnd:es.Nodup)(hj:es[i]?=some j)(hf:f j=false): cntC es (fun k=>k==j||f k)=cntC es f+1:=by
 unfold cntC
 induction es generalizing i with
 |nil=>simp at hj
 |cons e r ih =>
  rw[List.nodup_cons]at hnd
  cases i with
  |zero =>
   simp at hj;subst hj
   have e1:r.filter (fun k=>k==e||f k)=r.filter f:=List.filter_congr fun k hk=>by
    have:(k==e)=false:=by simp;intro h;subst h;exact hnd.1 hk
    rw[this,qBW]
   rw[qBR,qBR,hf]
   simp[e1]
  |succ i =>
   have hm:j∈r:=qAE (by simpa using hj)
   have hne:(e==j)=false:=by simp;intro h;subst h;exact hnd.1 hm
   have:=ih hnd.2 (by simpa using hj)
   rw[qBR,qBR,hne,qBW]
   split
   ·simp only[qAJ];omega
   ·exact this
theorem zR4{es:List Nat}{f:Nat->Bool}{j:Nat}(hj:j∉es): cntC es (fun k=>k==j||f k)=cntC es f:=by
 unfold cntC
 congr 1
 refine List.filter_congr fun k hk=>?_
 have:(k==j)=false:=by simp;intro h;subst h;exact hj hk
 rw[this,qBW]
theorem zQB{es:List Nat}{f g:Nat->Bool}(h:∀k∈es,f k=true->g k=true): cntC es f<=cntC es g:=by
 unfold cntC
 induction es with
 |nil=>simp
 |cons e r ih =>
  have:=ih fun k hk=>h k (qAt _ hk)
  rw[qBR,qBR]
  split
  ·rename_i he
   rw[if_pos (h e qA6 he)];simpa using this
  ·split
   ·simp only[qAJ];omega
   ·exact this
theorem zQC{f:Nat->Bool}: ∀{es:List Nat} {i:Nat},(∀(a:Nat) x,es[a]?=some x->f x=decide (a<i))->i<=es.length->cntC es f=i
 |[],i,_,hi=>by simp at hi;subst hi;rfl
 |e::r,0,h,_=>by
  unfold cntC
  have:(e::r).filter f=[]:=List.filter_eq_nil_iff.2 fun x hx=>by
   obtain⟨a,ha⟩:=qA0.1 hx
   rw[h a x ha];simp
  rw[this];rfl
 |e::r,i+1,h,hi=>by
  have:=zQC (f:=f) (es:=r) (i:=i) (fun a x ha=>by rw[h (a+1) x (by simpa using ha)];simp) (by simpa using hi)
  unfold cntC at this ⊢
  rw[qBR,h 0 e rfl]
  simp[this]
section
variable {C:Ctx}{ops:Array Oper}{rest:List Oper}{K:Sl->List Ob->Prop}{σ:Sl}{η:List Ob}{d:Nat}{ty:TypeId}{pos:String}{after:Array Edge}{gd:Option (Nat×Bool)}{t:TypeId}{x y:Operand}
end
section
variable {C:Ctx}{l:List Oper}{es:List Nat}{ηs:List (List Ob)}{j:Nat}{r:List Oper}{s:SV}{ss:List SV}{σ:Sl}{ids:List Nat}
end
section
variable {P:Program}{η:List Ob}{σ:Sl}{dst:Option Nat}{ty:TypeId}{pos:String}{after:Array Edge}{gd:Option (Nat×Bool)}{t:TypeId}{x y z:Operand}
end
section
variable {C:Ctx}{ops:Array Oper}{rest:List Oper}{K:Sl->List Ob->Prop}{σ:Sl}{η:List Ob}{d:Nat}{ty:TypeId}{pos:String}{after:Array Edge}{gd:Option (Nat×Bool)}{t:TypeId}{x y:Operand}
end
section
variable {C:Ctx}{ops:Array Oper}{rest:List Oper}{K:Sl->List Ob->Prop}{σ:Sl}{η:List Ob}
end
end Go.Sx
namespace Go.Sx
section
variable {C:Ctx}{σ:Sl}{η:List Ob}
end
open Go.RowKit
section
variable {C:Ctx}{ops:Array Oper}{rest:List Oper}{K:Sl->List Ob->Prop}{σ:Sl}{η:List Ob}{d:Nat}{ty:TypeId}{pos:String}{after:Array Edge}{gd:Option (Nat×Bool)}{t:TypeId}{x y:Operand}
end
section
variable {P:Program}{η:List Ob}{σ:Sl}{dst:Option Nat}{ty:TypeId}{pos:String}{after:Array Edge}{gd:Option (Nat×Bool)}{t:TypeId}{x y z:Operand}
end
section
variable {P:Program}{η:List Ob}{σ:Sl}{dst:Option Nat}{ty:TypeId}{pos:String}{after:Array Edge}{gd:Option (Nat×Bool)}{t yt:TypeId}{x y:Operand}
end

section
variable {C:Ctx}{ops:Array Oper}{rest:List Oper}{K:Sl->List Ob->Prop}{σ:Sl}{η:List Ob}{d:Nat}{ty:TypeId}{pos:String}{after:Array Edge}{gd:Option (Nat×Bool)}{t:TypeId}{x y:Operand}
end
end Go.Sx
namespace Go.Sx
open Go.RowKit
section
variable {P:Program}{η:List Ob}{σ:Sl}{dst:Option Nat}{ty:TypeId}{pos:String}{after:Array Edge}{gd:Option (Nat×Bool)}{t yt:TypeId}{x y:Operand}
end
section
variable {C:Ctx}{ops:Array Oper}{rest:List Oper}{K:Sl->List Ob->Prop}{σ:Sl}{η:List Ob}{d:Nat}{ty:TypeId}{pos:String}{after:Array Edge}{gd:Option (Nat×Bool)}{t:TypeId}{x y:Operand}
end
def upC(l:List Oper)(es:List Nat)(j:Nat): Nat:=(es.filter fun e=>!zD1 l.toArray l.length e j).length
section
variable {C:Ctx}{l r:List Oper}{es:List Nat}{ηs:List (List Ob)}{j:Nat}{s:SV}{ss:List SV}{σ:Sl}
theorem zQg{o:Oper}: ∀{L:List (List Ob)},(∀η,Ylds C.P η σ o s)->YAll C σ o s L
 |[],_=>trivial
 |η::_,h=>⟨h η,zQg h⟩
end
structure Rn where
 d:Nat
 e:TypeId
 n:Nat
 cap:Nat
 zd:D
def Rn.cs(p:Rn): List SV:=List.replicate p.cap (.d p.zd)
def Rn.v(p:Rn)(b:Nat): Value:=.slice (some ⟨b,0,none⟩) p.n p.cap
section
variable {P:Program}{η:List Ob}{σ:Sl}{dst:Option Nat}{ty:TypeId}{pos:String}{after:Array Edge}{gd:Option (Nat×Bool)}{x:Operand}
end
open Go.Lib
section
variable {P:Program}{η:List Ob}{σ:Sl}{dst:Option Nat}{ty:TypeId}{pos:String}{after:Array Edge}{gd:Option (Nat×Bool)}{t yt:TypeId}{x y z:Operand}
end
end Go.Sx
namespace Go.Sx
open Go.RowKit
section
variable {P:Program}{η:List Ob}{σ:Sl}{dst:Option Nat}{ty:TypeId}{pos:String}{after:Array Edge}{gd:Option (Nat×Bool)}{t yt:TypeId}{x y:Operand}
end
section
variable {C:Ctx}{ops:Array Oper}{rest:List Oper}{K:Sl->List Ob->Prop}{σ:Sl}{η:List Ob}{d:Nat}{ty:TypeId}{pos:String}{after:Array Edge}{gd:Option (Nat×Bool)}
end
section
variable {P:Program}{η:List Ob}{σ:Sl}{dst:Option Nat}{ty:TypeId}{pos:String}{after:Array Edge}{gd:Option (Nat×Bool)}{t:TypeId}{x y:Operand}
end
end Go.Sx
namespace Go.Sx
theorem Inv.noRow{g:Gh}{w:World}{η:List Ob}(hi:Inv g w η)(e sz:Nat):
  ∃g':Gh,Inv g' w (η++[.buf true e sz []])/\g'.St=g.St/\(∀id,id<g.n->g'.blk id=g.blk id/\g'.cap id=g.cap id/\g'.sz id=g.sz id)/\g'.n=g.n+1/\g'.blk g.n=none/\g'.cap g.n=0/\(∀j b,g'.blk j=some b->g.blk j=some b):=by
 have hn:=hi.n
 let g':Gh:={ g with blk:=upd g.blk g.n none,cap:=upd g.cap g.n 0,sz:=upd g.sz g.n sz,n:=g.n+1 }
 have hold:∀id,id<g.n->g'.blk id=g.blk id/\g'.cap id=g.cap id/\g'.sz id=g.sz id:=fun id hid=>by simp[g',upd,Nat.ne_of_lt hid]
 have hbl:∀j b,g'.blk j=some b->g.blk j=some b:=fun j b hb=>by
  by_cases h:j=g.n
  ·subst h;simp[g',upd]at hb
  ·simpa[g',upd,h]using hb
 have kp:Keep g.St w g'.St w:=⟨fun _ _ h=>h,fun _ _ _ _ h=>h,fun _ _=>rfl⟩
 refine⟨g',⟨by show g.n+1=_;rw[hn];simp,fun id b hb=>hi.lt id b (hbl id b hb),fun id hid=>?_,fun i j b h1 h2=>hi.inj i j b (hbl i b h1) (hbl j b h2),fun id o ho=>?_,hi.st,hi.gl⟩,rfl,hold,rfl,by simp[g',upd],by simp[g',upd],hbl⟩
 ·have h1:g.n+1<=id:=hid
  have hne:id≠g.n:=by omega
  simp only[g',upd,if_neg hne]
  exact hi.dead id (by omega)
 ·rw[List.getElem?_append]at ho
  split at ho
  ·rename_i hc
   exact(hi.ob id o ho).ext kp hold (by show g.n<=g.n+1;omega) (by omega) (fun b hb=>⟨rfl,fun o=>Iff.rfl⟩)
  ·rename_i hc
   have hid:id=g.n:=by
    have:=(qAA.1 ho).1
    simp at this;omega
   subst hid
   rw[show g.n-η.length=0 by omega]at ho
   simp at ho;subst ho
   exact⟨by simp[g',upd],by simp,by simp[g',upd],by simp,.inl ⟨by simp[g',upd],by simp[g',upd]⟩⟩
theorem RepSs.ext{g g':Gh}{w:World}(k:Keep g.St w g'.St w)(h:∀id,id<g.n->g'.blk id=g.blk id/\g'.cap id=g.cap id/\g'.sz id=g.sz id)(hn:g.n<=g'.n): ∀{vs:List Value} {ss:List SV},RepSs g w vs ss->RepSs g' w vs ss
 |[],[],_=>trivial
 |_::_,_::_,hr=>⟨hr.1.ext k h hn,RepSs.ext k h hn hr.2⟩
 |[],_::_,hr=>hr.elim
 |_::_,[],hr=>hr.elim
theorem RepSs.split{g:Gh}{w:World}{bs:List SV}: ∀{as:List SV} {vs:List Value},RepSs g w vs (as++bs)->∃us ws,vs=us++ws/\RepSs g w us as/\RepSs g w ws bs
 |[],vs,h=>⟨[],vs,rfl,trivial,h⟩
 |_::_,[],h=>h.elim
 |a::as,v::vs,h=>by
  obtain⟨us,ws,e,h1,h2⟩:=RepSs.split (as:=as) h.2
  exact⟨v::us,ws,by rw[e];rfl,⟨h.1,h1⟩,h2⟩
theorem RepSs.join{g:Gh}{w:World}{ws:List Value}{bs:List SV}(h2:RepSs g w ws bs): ∀{us:List Value} {as:List SV},RepSs g w us as->RepSs g w (us++ws) (as++bs)
 |[],[],_=>h2
 |_::_,_::_,h=>⟨h.1,RepSs.join h2 h.2⟩
 |[],_::_,h=>h.elim
 |_::_,[],h=>h.elim
theorem zOz{P:Program}{f:FuncId}{pre post:List Ob}{res:SV}{e sz k:Nat}(avs bvs:List SV)(hk:pre.length=k)(h:zBD P f (avs ++ .buf k 0::bvs) (pre++[.buf true e sz []]) res post): zBD P f (avs ++ .nil::bvs) pre res post:=by
 subst hk
 intro g w vs hi hr
 obtain⟨g',hi',hst,hold,hn,hb,hc,hbl⟩:=hi.noRow e sz
 have kp:Keep g.St w g'.St w:=⟨fun _ _ h=>by rw[hst];exact h,fun _ _ _ _ h=>h,fun _ _=>rfl⟩
 obtain⟨us,ws,rfl,h1,h2⟩:=hr.split
 cases ws with
 |nil=>exact h2.elim
 |cons v ws =>
  obtain⟨h2,h3⟩:=h2
  have hv:v=.slice none 0 0:=h2
  have ext:=fun {vs:List Value} {ss:List SV} (r:RepSs g w vs ss)=>r.ext kp hold (by omega:g.n<=g'.n)
  have hr':RepSs g' w (us++v::ws) (avs ++ .buf pre.length 0::bvs):=(show RepSs g' w (v::ws) (.buf pre.length 0::bvs)from⟨⟨by rw[hn,hi.n];omega,by rw[hv,<-hi.n,hb,hc];rfl⟩,ext h3⟩).join (ext h1)
  refine(h g' w _ hi' hr').mono fun r w' ⟨v',g'',e1,e2,e3,F⟩=>⟨v',g'',e1,e2,e3,⟨F.os,F.tape,F.output,F.size,fun k hk hno=>F.heap k hk fun j hj=>hno j (hbl j k hj),hst▸F.keep,fun b o ho=>?_,fun j b hj=>?_,fun j o hj ho=>?_⟩⟩
  ·rcases F.new b o ho with h|h|⟨j,h⟩
   ·exact .inl (hst▸h)
   ·exact .inr (.inl h)
   ·exact .inr (.inr ⟨j,hbl j b h⟩)
  ·rcases F.own j b hj with h|⟨i,h⟩
   ·exact .inl h
   ·exact .inr ⟨i,hbl i b h⟩
  ·have hlt:j<pre.length:=(qAA.1 hj).1
   rw[F.box j o (by rw[qAD hlt];exact hj) ho]
   exact(hold j (by rw[hi.n];exact hlt)).1
theorem zKt{C:Ctx}{σ:Sl}{η:List Ob}{Q:Exit->Sl->List Ob->Prop}{c:Code}(id j:Nat){k:Option Nat}{et:Option TypeId}{cs:List SV}{s:SV}{d:D}(ho:η[id]?=some (.bx k et cs))(hj:cs[j]?=some s)(hc:Co η s d)
  (h:awp C c Q σ (η.set id (.bx k et (cs.set j (.d d))))):awp C c Q σ η:=by
 intro R hR a w ⟨g,ha⟩
 refine h R hR a w ⟨g,{ ha with inv:={ ha.inv with n:=by simpa using ha.inv.n,ob:=fun i o hi=>?_ } }⟩
 have hidl:id<η.length:=(qAA.1 ho).1
 rw[qAb]at hi
 split at hi
 ·rename_i e;subst e
  try rw[if_pos hidl]at hi
  injection hi with hi;subst hi
  obtain⟨b,e',us,h1,h2,h3,h4,h5,h6,h7⟩:=ha.inv.ob id _ ho
  refine⟨b,e',us,h1,h2,by simpa using h3,h4,fun m u s' hu hs=>?_,h6,h7⟩
  rw[qAb]at hs
  split at hs
  ·rename_i hm;subst hm
   have hjl:=(qAA.1 hj).1
   try rw[if_pos hjl]at hs
   injection hs with hs;subst hs
   exact Co.rep ha.inv (h5 j u _ hu hj) hc
  ·exact h5 m u s' hu hs
 ·exact ha.inv.ob i o hi
open Go.RowKit
section
variable {C:Ctx}{ops:Array Oper}{rest:List Oper}{K:Sl->List Ob->Prop}{σ:Sl}{η:List Ob}{d:Nat}{ty:TypeId}{pos:String}{after:Array Edge}{gd:Option (Nat×Bool)}{t:TypeId}{x y:Operand}
end
end Go.Sx
namespace Go.Sx
open Go.RowKit
section
variable {C:Ctx}{l:List Oper}{es:List Nat}{G:Nat->SV->SV}{Tn:Nat->Sl->Sl}{j:Nat}{o:Oper}{r:List Oper}{s:SV}{ss:List SV}{σ:Sl}{η0 η1 η2:List Ob}
end
section
variable {C:Ctx}{ops:Array Oper}{l:List Oper}{K:Sl->List Ob->Prop}{σ:Sl}{η:List Ob}
end
structure Fn where
 d:Nat
 v:Nat->Value
 ob:Obj
 o:Nat->Ob
section
variable {P:Program}{η:List Ob}{σ:Sl}{dst:Option Nat}{ty:TypeId}{pos:String}{after:Array Edge}{gd:Option (Nat×Bool)}{t:TypeId}
end
section
variable {P:Program}{η:List Ob}{σ:Sl}{dst:Option Nat}{ty:TypeId}{pos:String}{after:Array Edge}{gd:Option (Nat×Bool)}{t yt:TypeId}{x y:Operand}
end
section
variable {P:Program}{η:List Ob}{σ:Sl}{dst:Option Nat}{ty:TypeId}{pos:String}{after:Array Edge}{gd:Option (Nat×Bool)}{t:TypeId}{x y:Operand}
end
section
variable {C:Ctx}{ops:Array Oper}{rest:List Oper}{K:Sl->List Ob->Prop}{σ:Sl}{η:List Ob}{d:Nat}{ty:TypeId}{pos:String}{after:Array Edge}{gd:Option (Nat×Bool)}{t:TypeId}{x y:Operand}
end
section
variable {P:Program}{η:List Ob}{σ:Sl}{dst:Option Nat}{ty:TypeId}{pos:String}{after:Array Edge}{gd:Option (Nat×Bool)}{t:TypeId}{x y:Operand}
end
section
variable {C:Ctx}{l r:List Oper}{es:List Nat}{ηs:List (List Ob)}{j:Nat}{ss:List SV}{σ:Sl}
end
def conc(P:Program)(t:TypeId): Bool:=match P.underlying t with
 |some (.interface _)=>false
 |some _=>true
 |none=>false
theorem zH1{P:Program}{t:TypeId}(h:conc P t=true): ∃u,P.underlying t=some u/\∀ms,u≠.interface ms:=by
 unfold conc at h
 split at h
 ·cases h
 ·rename_i u hu hn;exact⟨u,hn,fun ms e=>hu ms e⟩
 ·cases h
def zIx(P:Program)(e:TypeId): Option D :=
 match P.info? e with
 |some i=>match i.zero with
  |some (.agg cs)=>match cs.all (·.oneCell')with
   |true=>some (.agg (cs.toList.map zdv))
   |false=>none
  |some z=>some (zdv z)
  |none=>none
 |none=>none
theorem zN9{P:Program}{e:TypeId}{zd:D}(h:zIx P e=some zd): ∃z,(∀w,(zeroValue e).run P w=.ok z w)/\∀St w,RepD St w z zd:=by
 unfold zIx at h
 split at h
 ·rename_i i hi
  split at h
  ·rename_i cs hz
   split at h
   ·rename_i hall
    injection h with h;subst h
    refine⟨.agg cs,fun w=>by simp[zeroValue,typeInfo,hi,hz],fun St w=>?_⟩
    obtain⟨l⟩:=cs
    refine .agg l _ (by simp) (fun u hu=>?_) fun j u d hu hd=>?_
    ·exact(qA7.1 hall) u (by simpa using hu)
    ·rw[qAG,hu]at hd
     injection hd with hd;subst hd;exact zGO St w u
   ·cases h
  ·rename_i z hne hz
   injection h with h;subst h
   exact⟨z,fun w=>by simp[zeroValue,typeInfo,hi,hz],fun St w=>zGO St w z⟩
  ·cases h
 ·cases h
section
variable {P:Program}{η:List Ob}{σ:Sl}{dst:Option Nat}{ty:TypeId}{pos:String}{after:Array Edge}{gd:Option (Nat×Bool)}{t t1 t2:TypeId}{x:Operand}
theorem zCY{d:D}(hx:oval σ x=.d d)(hc:conc P t=true): Ylds P η σ ⟨dst,.makeInterface t x,ty,pos,after,gd⟩ (.d (.ifc t d)):=by
 obtain⟨u,hu,hn⟩:=zH1 hc
 refine Ylds.same fun g w a hi h=>⟨.iface t (a.eval x),?_,?_⟩
 ·simp only[execOp,Instr.makeInterface,Sem.run_bind,run_underlying hu,Result.andThen_ok]
  cases u <;> first|rfl|exact absurd rfl (hn _)
 ·have h1:=h x (by simp[Op.operands]);rw[hx]at h1
  exact .ifc t _ _ h1
theorem zLR{g:Gh}{w:World}{v:Value}{d:D}(h:RepS g w v (.d (.ifc t d))): ∃u,v=.iface t u/\RepD g.St w u d:=by
 change RepD _ _ _ _ at h
 cases h with
 |ifc t v d h=>exact⟨v,rfl,h⟩
theorem zDh{d:D}(hx:oval σ x=.d (.ifc t d))(hc:conc P t=true): Ylds P η σ ⟨dst,.typeAssert x t1 t true,ty,pos,after,gd⟩ (.d (.tup [d,bl true])):=by
 obtain⟨u,hu,hn⟩:=zH1 hc
 refine Ylds.same fun g w a hi h=>?_
 have h1:=h x (by simp[Op.operands]);rw[hx]at h1
 obtain⟨v,hv,hr⟩:=zLR h1
 refine⟨.tuple #[v,.bool true],?_,?_⟩
 ·simp only[execOp,Instr.typeAssert,Sem.run_bind,run_underlying hu,Result.andThen_ok,hv]
  cases u <;> first|(simp;done)|exact absurd rfl (hn _)
 ·refine .tup [v,.bool true] [d,bl true] rfl fun j u e hu he=>?_
  match j,hu,he with
  |0,hu,he=>simp at hu he;subst hu;subst he;exact hr
  |1,hu,he=>simp at hu he;subst hu;subst he;exact .val _
  |j+2,hu,_=>simp at hu
theorem zDi{d zd:D}(hx:oval σ x=.d (.ifc t d))(ht:Nat.beq t t2=false)(hc:conc P t2=true)(hz:zIx P t2=some zd): Ylds P η σ ⟨dst,.typeAssert x t1 t2 true,ty,pos,after,gd⟩ (.d (.tup [zd,bl false])):=by
 obtain⟨u,hu,hn⟩:=zH1 hc
 obtain⟨z,z1,z2⟩:=zN9 hz
 have hne:¬t=t2:=fun e=>by subst e;simp at ht
 refine Ylds.same fun g w a hi h=>?_
 have h1:=h x (by simp[Op.operands]);rw[hx]at h1
 obtain⟨v,hv,hr⟩:=zLR h1
 refine⟨.tuple #[z,.bool false],?_,?_⟩
 ·simp only[execOp,Instr.typeAssert,Sem.run_bind,run_underlying hu,Result.andThen_ok,hv]
  cases u <;> first|(simp[hne,z1];done)|exact absurd rfl (hn _)
 ·refine .tup [z,.bool false] [zd,bl false] rfl fun j u e hu he=>?_
  match j,hu,he with
  |0,hu,he=>simp at hu he;subst hu;subst he;exact z2 _ _
  |1,hu,he=>simp at hu he;subst hu;subst he;exact .val _
  |j+2,hu,_=>simp at hu
end
abbrev pv(b:Nat): D:=.val (.pointer (some ⟨b,0,none⟩))
section
variable {C:Ctx}{σ:Sl}{η:List Ob}
theorem Abs.asPtr{a:Act}{w:World}(k id b:Nat){et:Option TypeId}{cs:List SV}(hk:get σ k=.d (pv b))(ho:η[id]?=some (.bx (some b) et cs))(h:Abs C σ η a w): Abs C ((k,.ptr id 0)::σ) η a w:=by
 obtain⟨g,ha⟩:=h
 obtain⟨b',e,us,o1,o2,o3,o4,o5,o6,o7,o8⟩:=ha.inv.ob id _ ho
 have hb:=o7 b rfl;subst hb
 refine⟨g,ha.defers,ha.size,ha.inv,ha.os,ha.tape,ha.output,ha.wsize,ha.heap,ha.keep,ha.new,ha.own,fun t=>?_⟩
 rw[zA7]
 split
 ·rename_i e;subst e
  have:=ha.rep k;rw[hk]at this
  refine⟨by rw[ha.inv.n];exact(qAA.1 ho).1,b,o1,RepD.val_eq this⟩
 ·exact ha.rep t
theorem zKu{Q:Exit->Sl->List Ob->Prop}{c:Code}(k id b:Nat){et:Option TypeId}{cs:List SV}(hk:get σ k=.d (pv b))(ho:η[id]?=some (.bx (some b) et cs))(h:awp C c Q ((k,.ptr id 0)::σ) η): awp C c Q σ η :=
 fun R hR a w hab=>h R hR a w (hab.asPtr k id b hk ho)
theorem Abs.named{a:Act}{w:World}(k id:Nat){kb:Option Nat}{et:Option TypeId}{cs:List SV}(hk:get σ k=.ptr id 0)(ho:η[id]?=some (.bx kb et cs))(h:Abs C σ η a w): ∃b,Abs C ((k,.d (pv b))::σ) (η.set id (.bx (some b) et cs)) a w:=by
 obtain⟨g,ha⟩:=h
 have hidl:id<η.length:=(qAA.1 ho).1
 obtain⟨b,e,us,o1,o2,o3,o4,o5,o6,o7,o8⟩:=ha.inv.ob id _ ho
 refine⟨b,g,ha.defers,ha.size,⟨by rw[qAo];exact ha.inv.n,ha.inv.lt,ha.inv.dead,ha.inv.inj,fun i o hi=>?_,ha.inv.st,ha.inv.gl⟩,ha.os,ha.tape,ha.output,ha.wsize,ha.heap,ha.keep,ha.new,ha.own,fun t=>?_⟩
 ·rw[qAb]at hi
  split at hi
  ·rename_i e;subst e
   try rw[if_pos hidl]at hi
   injection hi with hi;subst hi
   exact⟨b,e,us,o1,o2,o3,o4,o5,o6,(fun c hc=>by injection hc with hc;exact hc.symm),o8⟩
  ·exact ha.inv.ob i o hi
 ·rw[zA7]
  split
  ·rename_i e;subst e
   have hr:=ha.rep k;rw[hk]at hr
   obtain⟨_,b2,hb2,hv⟩:=hr
   rw[o1]at hb2;injection hb2 with hb2;subst hb2
   rw[hv];exact .val _
  ·exact ha.rep t
theorem Abs.ptrRef{a:Act}{w:World}(id k:Nat){kb:Option Nat}{et:Option TypeId}{ds:List D}(hk:get σ k=.ptr id 0)(ho:η[id]?=some (.bx kb et (ds.map .d)))(hro:C.ro<=id)(h:Abs C σ η a w):
  Abs C ((k,.d (.ref ds))::σ) (η.set id .gone) a w:=by
 obtain⟨g,ha⟩:=h
 have hidl:id<η.length:=(qAA.1 ho).1
 obtain⟨b,e,us,o1,o2,o3,o4,o5,o6,o7⟩:=ha.inv.ob id _ ho
 have hbl:=ha.inv.lt id b o1
 let g':Gh:={ g with St:=fun b' o=>g.St b' o\/(b'=b/\o<us.size) }
 have kp:Keep g.St w g'.St w:=⟨fun _ _ h=>.inl h,fun _ _ _ _ h=>h,fun _ _=>rfl⟩
 have re:∀{v:Value} {s:SV},RepS g w v s->RepS g' w v s:=fun r=>r.ext kp (fun _ _=>⟨rfl,rfl,rfl⟩) (qAM _)
 have lt:∀b o,g'.St b o->b<w.heap.size:=fun b' o hb=>by
  rcases hb with hb|⟨rfl,_⟩
  ·exact ha.inv.st b' o hb
  ·exact hbl
 refine⟨g',ha.defers,ha.size,⟨by rw[qAo];exact ha.inv.n,ha.inv.lt,ha.inv.dead,ha.inv.inj,fun i o hi=>?_,lt,ha.inv.gl.keep kp⟩,ha.os,ha.tape,ha.output,ha.wsize,ha.heap,ha.keep.trans kp,fun b' o hb=>?_,ha.own,fun t=>?_⟩
 ·rw[qAb]at hi
  split at hi
  ·injection hi with hi;subst hi;trivial
  ·rename_i hne
   refine(ha.inv.ob i o hi).ext kp (fun _ _=>⟨rfl,rfl,rfl⟩) (qAM _) (by rw[ha.inv.n];exact(qAA.1 hi).1) (fun b' hb=>⟨rfl,fun o=>⟨fun ho'=>?_,fun h=>.inl h⟩⟩)
   rcases ho' with h1|⟨h1,_⟩
   ·exact h1
   ·rw[h1]at hb
    exact absurd (ha.inv.inj i id b hb o1) (fun h=>hne h.symm)
 ·rcases hb with hb|⟨rfl,_⟩
  ·exact ha.new b' o hb
  ·exact(ha.own id b' o1 hro).elim (fun h=>.inr (.inl h)) (fun h=>.inr (.inr h))
 ·rw[zA7]
  split
  ·rename_i hc;subst hc
   have hkr:=ha.rep k;rw[hk]at hkr
   obtain⟨_,b2,hb2,hv⟩:=hkr
   rw[o1]at hb2;injection hb2 with hb2;subst hb2
   rw[hv]
   have hul:us.toList.length=ds.length:=by rw[qAS,o3,qAK]
   refine .ref _ us.toList ds hul (fun u hu=>o4 u (by simpa using hu)) (fun j u hu=>⟨?_,?_⟩) fun j u d hu hd=>?_
   ·have:=(qAA.1 hu).1
    exact .inr ⟨rfl,by simpa using this⟩
   ·rw[Addr.add_lit,qAU,cell_of_row w b j us e (0,0) o2];simpa using hu
   ·exact(o5 j u (.d d) (by simpa using hu) (by rw[qAG,hd];rfl)).keep kp
  ·exact re (ha.rep t)
theorem zGk{Q:Exit->Sl->List Ob->Prop}{c:Code}(id k:Nat){kb:Option Nat}{et:Option TypeId}{ds:List D}(hk:get σ k=.ptr id 0)(ho:η[id]?=some (.bx kb et (ds.map .d)))(hro:Nat.ble C.ro id=true)(h:awp C c Q ((k,.d (.ref ds))::σ) (η.set id .gone)): awp C c Q σ η :=
 fun R hR a w hab=>h R hR a w (hab.ptrRef id k hk ho (qAH hro))
theorem zNz{ops:Array Oper}{rest:List Oper}{K:Sl->List Ob->Prop}(k id:Nat){kb:Option Nat}{et:Option TypeId}{cs:List SV}(hk:get σ k=.ptr id 0)(ho:η[id]?=some (.bx kb et cs))(h:∀b,alex C false ops rest K ((k,.d (pv b))::σ) (η.set id (.bx (some b) et cs))): alex C false ops rest K σ η:=by
 intro Q hQ a w hab
 obtain⟨b,hb⟩:=hab.named k id hk ho
 exact h b Q hQ a w hb
end
end Go.Sx
namespace Go.Sx
theorem ObOk.move{g g2:Gh}{w:World}{i j m:Nat}{o:Ob}(hb:o.below m=true)(hm:m<=g.n)(hm2:m<=g2.n)(hs:g2.St=g.St)(hk:∀k,k<m->g2.blk k=g.blk k/\g2.cap k=g.cap k/\g2.sz k=g.sz k)
  (hij:g2.blk j=g.blk i/\g2.cap j=g.cap i/\g2.sz j=g.sz i) (h:ObOk g w i o):ObOk g2 w j o:=by
 obtain⟨e1,e2,e3⟩:=hij
 have kp:Keep g.St w g2.St w:=by rw[hs];exact Keep.refl _ _
 have re:∀{v:Value} {s:SV},s.bel m=true->RepS g w v s->RepS g2 w v s:=fun hbs r =>
  (r.cut hm hbs).ext (g:=cut g m) (g':=g2) kp (fun k hk'=>by
   obtain⟨a1,a2,a3⟩:=hk k hk'
   have hk2:k<m:=hk'
   refine⟨?_,a2,a3⟩
   rw[a1];show _=(cut g m).blk k
   unfold cut;simp[hk2]) hm2
 cases o with
 |bx kb et cs =>
  obtain⟨b,e,us,h1,h2,h3,h4,h5,h6,h7⟩:=h
  refine⟨b,e,us,e1.trans h1,h2,h3,h4,fun q u s hu hc=>re (qAF.1 hb s (qAE hc)) (h5 q u s hu hc),fun o=>by rw[hs];exact h6 o,h7⟩
 |buf mu e sz xs =>
  obtain⟨h1,h2,h3,h4,h5⟩:=h
  refine⟨e3.trans h1,h2,by rw[e2];exact h3,by rw[e2];exact h4,?_⟩
  rw[e1,e2,hs]
  exact h5
 |iter s pos =>
  obtain⟨b,h1,h2,h3⟩:=h
  exact⟨b,e1.trans h1,h2,fun o=>by rw[hs];exact h3 o⟩
 |mapq q kb l =>
  obtain⟨b,es,ck,h1,h2,h3,h4,h5,h6⟩:=h
  exact⟨b,es,ck,e1.trans h1,h2,h3,fun j e p he hp=>⟨(h4 j e p he hp).1,by rw[hs];exact(h4 j e p he hp).2⟩,fun o=>by rw[hs];exact h5 o,h6⟩
 |miter k since seen st =>
  obtain⟨b,bm,h1,h2,h3,h4,h5⟩:=h
  have hkm:k<m:=qAV (by simpa[Ob.below]using hb) (qAM m)
  exact⟨b,bm,e1.trans h1,qAV hkm hm2,(hk k hkm).1.trans h3,h4,fun o=>by rw[hs];exact h5 o⟩
 |gone=>trivial
def insπ(m n k:Nat): Nat:=if k<m then k else if k=m then n else if k<=n then k-1 else k
theorem zRJ{m n i j:Nat}(hmn:m<=n)(h:insπ m n i=insπ m n j): i=j:=by
 unfold insπ at h
 repeat' split at h
 all_goals omega
def insG(m n:Nat)(g:Gh): Gh:={ g with blk:=fun k=>g.blk (insπ m n k),cap:=fun k=>g.cap (insπ m n k),sz:=fun k=>g.sz (insπ m n k) }
section
variable {C:Ctx}{σ:Sl}{η:List Ob}
theorem Abs.ins{a:Act}{w:World}{vis hid:List Ob}{o:Ob}{d m n:Nat}(hm:vis.length=m)(hn:hid.length+m=n)(hσ:zDl m σ=true)(hv:vis.all (Ob.below m)=true)(hh:∀p∈hid,p.below 0=true)(ho:o.below m=true)(hro:C.ro<=m)
  (h:Abs C ((d,.ptr n 0)::σ) (vis++(hid++[o])) a w):Abs C ((d,.ptr m 0)::σ) (vis++(o::hid)) a w:=by
 obtain⟨g,ha⟩:=h
 have hgn:g.n=n+1:=by rw[ha.inv.n];simp;omega
 have hmn:m<=n:=by omega
 have hlow:∀k,k<m->(insG m n g).blk k=g.blk k/\(insG m n g).cap k=g.cap k/\(insG m n g).sz k=g.sz k:=fun k hk=>by
  have:insπ m n k=k:=by unfold insπ;rw[if_pos hk]
  exact⟨congrArg g.blk this,congrArg g.cap this,congrArg g.sz this⟩
 have b0:∀{p:Ob},p.below 0=true->p.below m=true:=by
  have hs:∀{s:SV},s.bel 0=true->s.bel m=true:=by
   intro s
   induction s with
   |clo f ids=>intro h;exact qAF.2 fun i hi=>by have:=qAF.1 h i hi;simp at this
   |pair a b iha ihb=>intro h;simp only[SV.bel,qAP]at h ⊢;exact⟨iha h.1,ihb h.2⟩
   |_=>intro h;first|exact h|(simp[SV.bel]at h)
  intro p hp
  cases p with
  |bx kb et cs=>exact qAF.2 fun s hs'=>hs (qAF.1 hp s hs')
  |miter k since seen st=>simp[Ob.below]at hp
  |_=>exact hp
 have mv:∀{i j:Nat} {p:Ob},p.below m=true->insπ m n j=i->ObOk g w i p->ObOk (insG m n g) w j p:=fun {i j p} hp e h =>
  ObOk.move (g:=g) (g2:=insG m n g) (i:=i) (j:=j) hp (by omega) (by show m<=g.n;omega) rfl hlow ⟨congrArg g.blk e,congrArg g.cap e,congrArg g.sz e⟩ h
 refine⟨insG m n g,{ ha with inv:=?_,own:=fun id b hb hr=>?_,rep:=fun t=>?_,keep:=ha.keep,new:=ha.new }⟩
 ·refine { n:=?_,lt:=fun id b hb=>ha.inv.lt _ b hb,dead:=fun id hid'=>?_,inj:=fun p q b hp hq=>zRJ hmn (ha.inv.inj _ _ b hp hq),ob:=fun id p hp=>?_,st:=ha.inv.st,gl:=ha.inv.gl }
  ·show g.n=_;rw[hgn];simp;omega
  ·have hid':g.n<=id:=hid'
   have:insπ m n id=id:=by unfold insπ;rw[if_neg (by omega),if_neg (by omega),if_neg (by omega)]
   show g.blk (insπ m n id)=none
   rw[this];exact ha.inv.dead id hid'
  ·rcases qAI id m with h1|h1
   ·rw[qAD (by omega)]at hp
    refine mv (qAF.1 hv p (qAE hp)) (by unfold insπ;rw[if_pos h1]) (ha.inv.ob id p ?_)
    rw[qAD (by omega)];exact hp
   ·rw[qAC (by omega),hm]at hp
    rcases Nat.eq_or_lt_of_le h1 with h2|h2
    ·subst h2
     rw[Nat.sub_self]at hp
     injection hp with hp;subst hp
     refine mv ho (by unfold insπ;rw[if_neg (by omega),if_pos rfl]) (ha.inv.ob n o ?_)
     rw[qAC (by omega),hm,qAC (by omega),show n-m-hid.length=0 by omega];rfl
    ·rw[show id-m=(id-m-1)+1 by omega,List.getElem?_cons_succ]at hp
     have hl:=(qAA.1 hp).1
     refine mv (b0 (hh p (qAE hp))) (i:=id-1) (by unfold insπ;rw[if_neg (by omega),if_neg (by omega),if_pos (by omega)]) (ha.inv.ob (id-1) p ?_)
     rw[qAC (by omega),hm,qAD (by omega),show id-1-m=id-m-1 by omega];exact hp
 ·rcases qAI id m with h1|h1
  ·refine ha.own id b ?_ hr
   rw[<-(hlow id h1).1];exact hb
  ·refine ha.own (insπ m n id) b hb ?_
   unfold insπ
   rw[if_neg (by omega)]
   split
   ·omega
   ·split <;> omega
 ·rw[zA7]
  split
  ·rename_i e;subst e
   have hr:=ha.rep d
   rw[zA7,if_pos rfl]at hr
   obtain⟨_,b,hb,hv'⟩:=hr
   refine⟨by show m<g.n;omega,b,?_,hv'⟩
   show g.blk (insπ m n m)=some b
   rw[show insπ m n m=n by unfold insπ;rw[if_neg (by omega),if_pos rfl]];exact hb
  ·rename_i hne
   have hr:=ha.rep t
   rw[zA7,if_neg hne]at hr
   refine RepS.ext (g:=cut g m) (g':=insG m n g) (Keep.refl g.St w) (fun k hk=>?_) (by show m<=g.n;omega) (hr.cut (m:=m) (by omega) (zGG hσ t))
   have hk2:k<m:=hk
   obtain⟨a1,a2,a3⟩:=hlow k hk2
   refine⟨?_,a2,a3⟩
   rw[a1];unfold cut;simp[hk2]
def dataOb(p:Ob): Prop:=∃b et ds,p=.bx (some b) et (List.map SV.d ds)
theorem dataOb.bel{p:Ob}(h:dataOb p): p.below 0=true:=by
 obtain⟨b,et,ds,rfl⟩:=h
 exact qAF.2 fun s hs=>by obtain⟨d,_,rfl⟩:=qAu.1 hs;rfl
end
section
variable {C:Ctx}{ops:Array Oper}{rest:List Oper}{K:Sl->List Ob->Prop}{σ:Sl}{η:List Ob}{d:Nat}{ty t:TypeId}{pos:String}{after:Array Edge}{gd:Option (Nat×Bool)}{x:Operand}
theorem zSD(hid:List Ob)(m:Nat){o:Ob}(hη:η.drop m=hid)(hm:(η.take m).length=m)(hσ:zDl m σ=true)(hv:(η.take m).all (Ob.below m)=true)(hh:∀p∈hid,dataOb p)(ho:o.below m=true)(hro:Nat.ble C.ro m=true)
  (h:alex C false ops rest K ((d,.ptr m 0)::σ) (η.take m++(o::hid))):alex C false ops rest K ((d,.ptr η.length 0)::σ) (η++[o]):=by
 intro Q hQ a w hab
 refine h Q hQ a w ?_
 have e:η++[o]=η.take m++(hid++[o]):=by rw[<-hη,<-qAY,qAj]
 have hl:hid.length+m=η.length:=by
  rw[<-hη,qAl]
  rw[qAT]at hm;omega
 rw[e]at hab
 exact hab.ins hm hl hσ hv (fun p hp=>(hh p hp).bel) ho (qAH hro)
theorem zBj{zs:List Value}(hid:List Ob)(m:Nat)(hh:∀p∈hid,dataOb p)(hz:zBJ C.P t=some zs)(hd:Nat.blt d C.N=true)(hro0:Nat.ble C.ro η.length=true)(hη:η.drop m=hid)(hm:(η.take m).length=m)(hσ:zDl m σ=true)(hv:(η.take m).all (Ob.below m)=true)(hro:Nat.ble C.ro m=true)
  (h:alex C false ops rest K ((d,.ptr m 0)::σ) (η.take m++(.box (zs.map cst)::hid))):zA3 C false ops ⟨some d,.alloc t,ty,pos,after,gd⟩ rest K σ η:=by
 refine zBF hz hd hro0 (zSD hid m hη hm hσ hv hh ?_ hro h)
 refine qAF.2 fun s hs=>?_
 obtain⟨v,_,rfl⟩:=qAu.1 hs
 unfold cst;split <;> rfl
end
abbrev hidL(H:List (Nat×D)): List Ob:=H.map fun p=>.bx (some p.1) none [.d p.2]
abbrev hidU(H:List (Nat×D)): List Ob:=H.map fun p=>.bx none none [.d p.2]
theorem zAh(H:List (Nat×D)): ∀p∈hidL H,dataOb p:=fun p hp=>by
 obtain⟨q,_,rfl⟩:=qAu.1 hp
 exact⟨q.1,none,[q.2],rfl⟩
def zDI(P:Program)(f:FuncId)(as:List SV)(V:List Ob)(H:List (Nat×D)){Y:Type}(ok:Y->Prop)(res:Y->SV)(V':Y->List Ob)(H':Y->List (Nat×D)): Prop :=
 ∀(g:Gh) (w:World) (vs:List Value),Inv g w (V++hidL H)->RepSs g w vs as->
  Calls P f vs.toArray w (fun e w'=>∃y,ok y/\∃v g',e=.returned v/\Inv g' w' (V' y++hidL (H' y))/\RepS g' w' v (res y)/\Frame g w (V++hidU H) g' w')
theorem zHY{ids r:List Nat}: ∀{s:SV},s.bel ids.length=true->s.ren (ids++r)=s.ren ids:=by
 have hg:∀{i:Nat},Nat.blt i ids.length=true->(ids++r).getD i 0=ids.getD i 0:=fun {i} h=>by
  have h:i<ids.length:=by simpa using h
  rw[qAQ,qAQ,qAD h]
 intro s
 induction s with
 |ptr i o=>intro h;simp only[SV.ren,hg h]
 |bptr i k o=>intro h;simp only[SV.ren,hg h]
 |buf i n=>intro h;simp only[SV.ren,hg h]
 |bsl i k n=>intro h;simp only[SV.ren,hg h]
 |mp i=>intro h;simp only[SV.ren,hg h]
 |clo f l=>intro h;simp only[SV.ren];congr 1;exact qA1 fun i hi=>hg (qAF.1 h i hi)
 |pair a b iha ihb=>intro h;simp only[SV.bel,qAP]at h;simp only[SV.ren,iha h.1,ihb h.2]
 |_=>intro _;rfl
theorem zHZ{ids r:List Nat}{p:Ob}(h:p.below ids.length=true): p.ren (ids++r)=p.ren ids:=by
 cases p with
 |bx k et cs=>simp only[Ob.ren];congr 1;exact qA1 fun s hs=>zHY (qAF.1 h s hs)
 |miter m since seen st =>
  have h:m<ids.length:=by simpa[Ob.below]using h
  simp only[Ob.ren];rw[qAQ,qAQ,qAD h]
 |_=>rfl
theorem zL1{bufs ids r:List Nat}{m:Nat}(hr:∀i∈r,m<=i): ∀{s:SV},s.bel m=true->s.wipe bufs (ids++r)=s.wipe bufs ids:=by
 have hg:∀{i:Nat},Nat.blt i m=true->(ids++r).any (Nat.beq i)=ids.any (Nat.beq i):=fun {i} h=>by
  have h:i<m:=by simpa using h
  rw[List.any_append]
  have:r.any (Nat.beq i)=false:=by
   cases e:r.any (Nat.beq i)with
   |false=>rfl
   |true=>have:=hr i (zLq.1 e);omega
  rw[this,Bool.or_false]
 intro s
 induction s with
 |bptr i k o=>intro h;simp only[SV.wipe,hg h]
 |buf i n=>intro h;simp only[SV.wipe,hg h]
 |bsl i k n=>intro h;simp only[SV.wipe,hg h]
 |pair a b iha ihb=>intro h;simp only[SV.bel,qAP]at h;simp only[SV.wipe,iha h.1,ihb h.2]
 |_=>intro _;rfl
theorem zNA{bufs ids r:List Nat}{m:Nat}(hr:∀i∈r,m<=i){p:Ob}(h:p.below m=true): p.wipe bufs (ids++r)=p.wipe bufs ids:=by
 cases p with
 |bx k et cs=>simp only[Ob.wipe];congr 1;exact qA1 fun s hs=>zL1 hr (qAF.1 h s hs)
 |_=>rfl
theorem zHM{bufs ids r:List Nat}{m:Nat}(hr:∀i∈r,m<=i): ∀{σ:Sl},zDl m σ=true->zEu bufs (ids++r) σ=zEu bufs ids σ
 |[],_=>rfl
 |(k,s)::σ,h=>by
  simp only[zDl,qAP]at h
  rw[zEu,zEu,zL1 hr h.1,zHM hr h.2]
theorem zGi{V:List Ob}: ∀{ids r:List Nat},ids.length=V.length->∀{H:List (Nat×D)},r.length=H.length->zBO (ids++r) (V++hidU H)=zBO ids V:=by
 induction V with
 |nil =>
  intro ids r h H hr
  cases ids with
  |nil =>
   show zBO r (hidU H)=[]
   induction H generalizing r with
   |nil=>cases r with
    |nil=>rfl
    |cons a b=>simp at hr
   |cons q H ih=>cases r with
    |nil=>rfl
    |cons a b=>exact ih (by simpa using hr)
  |cons a b=>simp at h
 |cons o V ih =>
  intro ids r h H hr
  cases ids with
  |nil=>simp at h
  |cons i ids =>
   have:=ih (ids:=ids) (r:=r) (by simpa using h) (H:=H) hr
   show zBO (i::(ids++r)) (o::(V++hidU H))=zBO (i::ids) (o::V)
   simp only[zBO,this]
theorem zFx(m n:Nat): ∀i∈List.range' m n,m<=i:=fun _ hi=>(List.mem_range'_1.1 hi).1
theorem zN4{vis V V':List Ob}{H H':List (Nat×D)}{ids:List Nat}{m:Nat}(hm:vis.length=m)(hlen:ids.length=V.length)(hVV:V'.length=V.length)(hids:∀i∈ids,i<m)(hn:ids.Nodup)(hv:vis.all (Ob.below m)=true)(hV':V'.all (Ob.below V.length)=true)
  (hH:∀(j b:Nat) (d:D),H[j]?=some (b,d)->∃d',H'[j]?=some (b,d')) :
  ηOf (ids++List.range' m H.length) (V++hidU H) (V'++hidL H') (vis++hidL H)=zC9 (zDZ (zBO ids V) ids vis) ids (V'.map (Ob.ren ids))++hidL H':=by
 have hle:H.length<=H'.length:=by
  rcases qAI H'.length H.length with h|h
  ·obtain⟨d',h'⟩:=hH H'.length (H[H'.length]).1 (H[H'.length]).2 (by rw[qAB h])
   rw[qAd (qAM _)]at h';cases h'
  ·exact h
 have e1:(V'++hidL H').length-(V++hidU H).length=H'.length-H.length:=by simp only[qAO,qAK];omega
 have eids:zDj (ids++List.range' m H.length) (vis++hidL H).length (V++hidU H) (V'++hidL H')=ids++List.range' m H'.length:=by
  unfold zDj
  rw[e1,qAY,qAO,qAK,hm]
  congr 1
  rw[show H'.length=H.length+(H'.length-H.length) by omega,List.range'_append_1.symm]
  simp
 unfold ηOf
 rw[eids,e1,zGi hlen (by simp)]
 have hnd:(ids++List.range' m H'.length).Nodup:=qBZ.2 ⟨hn,List.nodup_range',fun a ha b hb e=>by subst e;have:=hids a ha;have:=zFx m _ a hb;omega⟩
 refine qBY fun i=>?_
 have hbl:(zDZ (zBO ids V) (ids++List.range' m H.length) (vis++hidL H)++List.replicate (H'.length-H.length) Ob.gone).length=m+H'.length:=by
  rw[qAO,zB8,qAO,qAK,List.length_replicate];omega
 have hbase:∀k,k<m->(zDZ (zBO ids V) (ids++List.range' m H.length) (vis++hidL H)++List.replicate (H'.length-H.length) Ob.gone)[k]?=(zDZ (zBO ids V) ids vis)[k]?:=fun k hk=>by
  rw[qAD (by rw[zB8,qAO];omega),zEQ,zEQ,qAD (by omega)]
  cases hq:vis[k]? with
  |none=>rfl
  |some q=>exact congrArg some (zNA (zFx m _) (qAF.1 hv q (qAE hq)))
 rcases qAI i m with hi|hi
 ·have hrl:(zC9 (zDZ (zBO ids V) ids vis) ids (V'.map (Ob.ren ids))).length=m:=by rw[zDt,zB8,hm]
  rw[qAD (by rw[hrl];exact hi)]
  by_cases hmem:i∈ids
  ·obtain⟨j,hj⟩:=qA0.1 hmem
   have hjl:=(qAA.1 hj).1
   obtain⟨p,hp⟩:∃p,V'[j]?=some p:=⟨_,qAB (by omega)⟩
   obtain⟨o,ho⟩:∃o,(zDZ (zBO ids V) ids vis)[i]?=some o:=⟨_,qAB (by rw[zB8];omega)⟩
   have hpb:=qAF.1 hV' p (qAE hp)
   rw[zEw _ ids _ j i o (p.ren ids) hn hj (by rw[qAG,hp];rfl) ho]
   rw[zEw _ _ _ j i o (p.ren (ids++List.range' m H'.length)) hnd (by rw[qAD hjl];exact hj) (by rw[qAG,qAD (by omega),hp];rfl) (by rw[hbase i hi];exact ho)]
   rw[zHZ (by rw[hlen];exact hpb)]
  ·rw[zER _ ids _ i hmem,zER _ _ _ i (fun h=>by
    rcases qAx.1 h with h|h
    ·exact hmem h
    ·have:=zFx m _ i h;omega),hbase i hi]
 ·rw[qAC (by rw[zDt,zB8];omega),zDt,zB8,hm]
  rcases qAI (i-m) H'.length with hj|hj
  ·obtain⟨⟨b,d⟩,hq⟩:∃q,H'[i-m]?=some q:=⟨_,qAB hj⟩
   have hR:(hidL H')[i-m]?=some (.bx (some b) none [.d d]):=by rw[qAG,hq];rfl
   obtain⟨o,ho,hback⟩:∃o,(zDZ (zBO ids V) (ids++List.range' m H.length) (vis++hidL H)++List.replicate (H'.length-H.length) Ob.gone)[i]?=some o/\Ob.back o (.bx (some b) none [.d d])=.bx (some b) none [.d d]:=by
    rcases qAI (i-m) H.length with h2|h2
    ·obtain⟨⟨b0,d0⟩,hq0⟩:∃q,H[i-m]?=some q:=⟨_,qAB h2⟩
     obtain⟨d',hd'⟩:=hH _ _ _ hq0
     rw[hq]at hd';injection hd' with hd';injection hd' with e2 e3;subst e2
     refine⟨.bx (some b) none [.d d0],?_,rfl⟩
     rw[qAD (by rw[zB8,qAO,qAK];omega),zEQ,qAC (by omega),hm,qAG,hq0];rfl
    ·refine⟨.gone,?_,rfl⟩
     rw[qAC (by rw[zB8,qAO,qAK];omega),List.getElem?_replicate,if_pos (by rw[zB8,qAO,qAK];omega)]
   rw[hR,zEw _ _ _ (ids.length+(i-m)) i o (.bx (some b) none [.d d]) hnd ?_ ?_ ho,hback]
   ·rw[qAC (by omega),qBV (by omega)];congr 1;omega
   ·rw[qAG,qAC (by omega),show ids.length+(i-m)-V'.length=i-m by omega,hR];rfl
  ·rw[qAd (by rw[zDt,hbl];omega),qAd (by rw[qAK];omega)]
theorem zCy{m n:Nat}(h:m<=n){p:Ob}(hp:p.below m=true): p.below n=true:=by
 have hs:∀{s:SV},s.bel m=true->s.bel n=true:=by
  intro s
  induction s with
  |clo f ids=>intro h';exact qAF.2 fun i hi=>by have:=qAF.1 h' i hi;simp at this ⊢;omega
  |pair a b iha ihb=>intro h';simp only[SV.bel,qAP]at h' ⊢;exact⟨iha h'.1,ihb h'.2⟩
  |ptr i o=>intro h';simp[SV.bel]at h' ⊢;omega
  |bptr i k o=>intro h';simp[SV.bel]at h' ⊢;omega
  |buf i o=>intro h';simp[SV.bel]at h' ⊢;omega
  |bsl i k o=>intro h';simp[SV.bel]at h' ⊢;omega
  |mp i=>intro h';simp[SV.bel]at h' ⊢;omega
  |_=>intro _;rfl
 cases p with
 |bx kb et cs=>exact qAF.2 fun s hs'=>hs (qAF.1 hp s hs')
 |miter k since seen st=>simp[Ob.below]at hp ⊢;omega
 |_=>rfl
theorem zDm: ∀{V V':List Ob} {H H':List (Nat×D)},zDN V V'=true->H.length<=H'.length->zCM (V++hidU H) (V'++hidL H')=true
 |[],[],[],H',_,_=>by cases H' <;> rfl
 |[],[],q::H,[],_,h=>by simp at h
 |[],[],q::H,q'::H',_,h=>by
  have:=zDm (V:=[]) (V':=[]) (H:=H) (H':=H') rfl (by simpa using h)
  simp only[qA9]at this ⊢
  simp only[hidU,hidL,qBN,zCM,qAP]
  exact⟨rfl,this⟩
 |o::V,p::V',H,H',h,hl=>by
  simp only[zDN,qAP]at h
  simp only[qBB,zCM,qAP]
  exact⟨h.1,zDm h.2 hl⟩
 |[],_::_,_,_,h,_=>by cases h
 |_::_,[],_,_,h,_=>by cases h
section
variable {C:Ctx}{ops:Array Oper}{rest:List Oper}{K:Sl->List Ob->Prop}{σ:Sl}{η:List Ob}{d:Nat}{ty:TypeId}{pos:String}{after:Array Edge}{gd:Option (Nat×Bool)}
theorem zBQ{f:FuncId}{args:List Operand}{ts:Array TypeId}{as:List SV}{V:List Ob}{H:List (Nat×D)}{Y:Type}{ok:Y->Prop}{res:Y->SV}{V':Y->List Ob}{H':Y->List (Nat×D)}(m:Nat)(ids:List Nat)(hb:zAK C.P f=true)(hc:zDI C.P f as V H ok res V' H')
  (hη:η.drop m=hidL H) (hm:(η.take m).length=m) (hv:(η.take m).all (Ob.below m)=true) (hσ:zDl m σ=true) (ha:SArgs σ ids args as) (hp:Picks (η.take m) ids V) (hd:Nat.blt d C.N=true) (hn:ids.Nodup) (hlen:ids.length=V.length) (hids:ids.all (fun i=>Nat.blt i m)=true) (hu:zDa V=true)
  (hbl:V.all (Ob.below V.length)=true) (hba:as.all (SV.bel V.length)=true) (hro:Nat.ble C.ro m=true) (hroi:ids.all (fun i=>Nat.ble C.ro i)=true)
  (hk:∀y,ok y->zDN V (V' y)=true/\(V' y).all (Ob.below V.length)=true/\(res y).bel V.length=true/\∀(j b:Nat) (d:D),H[j]?=some (b,d)->∃d',(H' y)[j]?=some (b,d'))
  (h:∀y,ok y->alex C false ops rest K ((d,(res y).ren ids)::zEu (zBO ids V) ids σ) (zC9 (zDZ (zBO ids V) ids (η.take m)) ids ((V' y).map (Ob.ren ids))++hidL (H' y))) :
  zA3 C false ops ⟨some d,.call ⟨.value (.func f),args.toArray,ts⟩,ty,pos,after,gd⟩ rest K σ η:=by
 intro Q hQ a w ⟨g,hg⟩ K' hK'
 have hro:=qAH hro
 have hids':∀i∈ids,i<m:=fun i hi=>by have:=qAF.1 hids i hi;simpa using this
 generalize hvis:η.take m=vis at *
 have heη:η=vis++hidL H:=by rw[<-hvis,<-hη,qAj]
 subst heη
 have hml:vis.length=m:=hm
 have hge:=zFx m H.length
 have hlen':(ids++List.range' m H.length).length=(V++hidU H).length:=by simp[hlen]
 have hn':(ids++List.range' m H.length).Nodup:=qBZ.2 ⟨hn,List.nodup_range',fun a ha b hb e=>by subst e;have:=hids' a ha;have:=hge a hb;omega⟩
 have hp':Picks (vis++hidL H) (ids++List.range' m H.length) (V++hidU H):=by
  unfold Picks at hp ⊢
  rw[qAh,qAh]
  congr 1
  ·have e1:(ids.map fun i=>((vis++hidL H)[i]?).map Ob.forget)=ids.map fun i=>(vis[i]?).map Ob.forget:=qA1 fun i hi=>by rw[qAD (by have:=hids' i hi;omega)]
   rw[e1,hp]
   exact qA1 fun p hpm=>by rw[zHZ (by rw[hlen];exact qAF.1 hbl p hpm)]
  ·refine qBY fun j=>?_
   rw[qAG,qAG,qAG]
   rcases qAI j H.length with hj|hj
   ·rw[qBV hj,qAB hj]
    show some (((vis++hidL H)[m+1*j]?).map Ob.forget)=some (some _)
    rw[qAC (by omega),show m+1*j-vis.length=j by omega,qAG,qAB hj];rfl
   ·rw[qAd (by simpa using hj),qAd hj];rfl
 have hpu:zDa (V++hidU H)=true:=by
  unfold zDa at hu ⊢
  rw[qBT,hu,qBE]
  exact qAF.2 fun p hpm=>by obtain⟨q,_,rfl⟩:=qAu.1 hpm;rfl
 have hpb:(V++hidU H).all (Ob.below (V++hidU H).length)=true:=by
  rw[qBT,qAP]
  refine⟨qAF.2 fun p hpm=>zCy (by simp) (qAF.1 hbl p hpm),qAF.2 fun p hpm=>?_⟩
  obtain⟨q,_,rfl⟩:=qAu.1 hpm;rfl
 have hI0:=hg.inv.callee hn' hlen' hp' hpu hpb
 have hI1:Inv (zBP g (ids++List.range' m H.length)) w (V++hidL H):=by
  refine { hI0 with n:=by rw[hI0.n];simp,ob:=fun id o ho=>?_ }
  rcases qAI id V.length with h1|h1
  ·rw[qAD h1]at ho
   exact hI0.ob id o (by rw[qAD h1];exact ho)
  ·rw[qAC h1,qAG]at ho
   cases hq:H[id-V.length]? with
   |none=>rw[hq]at ho;cases ho
   |some q =>
    rw[hq]at ho;injection ho with ho;subst ho
    have hjl:=(qAA.1 hq).1
    obtain⟨b,e,us,o1,o2,o3,o4,o5,o6,o7⟩:=hI0.ob id (.bx none none [.d q.2]) (by rw[qAC h1,qAG,hq];rfl)
    obtain⟨b2,e2,us2,p1,p2,p3,p4,p5,p6,p7⟩:=hg.inv.ob (m+(id-V.length)) (.bx (some q.1) none [.d q.2]) (by rw[qAC (by omega),qAG,show m+(id-V.length)-vis.length=id-V.length by omega,hq];rfl)
    refine⟨b,e,us,o1,o2,o3,o4,o5,o6,(fun c hc=>?_),o7.2⟩
    have hc2:=p7.1 c hc
    have hgi:(zBP g (ids++List.range' m H.length)).blk id=g.blk (m+(id-V.length)):=by
     show ((ids++List.range' m H.length)[id]?).bind g.blk=_
     rw[qAC (by omega),qBV (by omega),show m+1*(id-ids.length)=m+(id-V.length) by omega];rfl
    rw[hgi,p1]at o1
    injection o1 with o1
    rw[hc2,o1]
 have hba':as.all (SV.bel (V++hidU H).length)=true:=qAF.2 fun s hs=>by
  have:=zCy (m:=V.length) (n:=(V++hidU H).length) (by simp) (p:=.bx none none [s]) (by show (s.bel V.length&&true)=true;rw[qAF.1 hba s hs];rfl)
  have h2:(s.bel (V++hidU H).length&&true)=true:=this
  simpa using h2
 have ha':SArgs σ (ids++List.range' m H.length) args as:=by
  have key:∀(xs:List Operand) (ss:List SV),ss.all (SV.bel V.length)=true->SArgs σ ids xs ss->SArgs σ (ids++List.range' m H.length) xs ss:=by
   intro xs
   induction xs with
   |nil=>intro ss _ h;cases ss with
    |nil=>exact h
    |cons=>exact h.elim
   |cons x xs ih=>intro ss hs h;cases ss with
    |nil=>exact h.elim
    |cons s ss =>
     simp only[List.all_cons,qAP]at hs
     exact⟨by rw[zHY (by rw[hlen];exact hs.1)];exact h.1,ih ss hs.2 h.2⟩
  exact key args as hba ha
 obtain⟨e1,e2⟩:=ha'.rep hg
 unfold Oper.wp
 have hrun:(execOp a.eval ⟨some d,.call ⟨.value (.func f),args.toArray,ts⟩,ty,pos,after,gd⟩).run C.P w=.ok (.enter f (args.map a.eval).toArray) w:=by
  simp only[execOp,resolve,Act.eval,Deferred.ofValue,invoke,Sem.run_bind,Sem.run_pure,Result.andThen_ok,qAv,qBF,Array.append_empty]
  exact zCQ hb
 rw[hrun,Oper.upon_enter]
 have hr:=RepSs.callee (g:=g) (w:=w) hlen' (args.map a.eval) as e2 (by simp[e1]) hba'
 refine(hc _ w _ hI1 hr).mono fun e w' ⟨y,hy,v,g',he,hI,hres,hF⟩=>?_
 subst he
 obtain⟨k1,k2,k3,k4⟩:=hk y hy
 obtain⟨s1,s2⟩:=zCv k1
 have hle:H.length<=(H' y).length:=by
  rcases qAI (H' y).length H.length with h|h
  ·obtain⟨d',h'⟩:=k4 (H' y).length (H[(H' y).length]).1 (H[(H' y).length]).2 (by rw[qAB h])
   rw[qAd (qAM _)]at h';cases h'
  ·exact h
 obtain⟨g2,h1,h2⟩:=hg.called hn' hlen' hp' (zDm k1 hle) (by
  rw[qBT,hroi,qBE]
  exact qAF.2 fun i hi=>Nat.ble_eq_true_of_le (qAi hro (hge i hi))) hI hres hF
 have eb:zBO (ids++List.range' m H.length) (V++hidU H)=zBO ids V:=zGi hlen (by simp)
 rw[zN4 hml hlen s2.symm hids' hn hv k2 k4,eb,zHM hge hσ]at h1
 have e3:(res y).ren (zDj (ids++List.range' m H.length) (vis++hidL H).length (V++hidU H) (V' y++hidL (H' y)))=(res y).ren ids:=by
  unfold zDj
  rw[qAY]
  exact zHY (by rw[hlen];exact k3)
 rw[e3]at h2
 exact hK' _ _ (h y hy Q hQ _ w' ⟨g2,h1.put (d:=some d) hd h2⟩)
end
def zC7{Y:Type}(rs:Array ResultVar)(ok:Y->Prop)(res:Y->SV)(post:Y->List Ob): Exit->Sl->List Ob->Prop:=fun e σ η=>∃y,ok y/\zBs rs (res y) (post y) e σ η
theorem zPv{Y:Type}{rs:Array ResultVar}{ok:Y->Prop}{res:Y->SV}{post:Y->List Ob}{σ:Sl}{η:List Ob}(y:Y)(hy:ok y)(h:MRes rs (res y) (post y) σ η): zC7 rs ok res post .ret σ η:=⟨y,hy,h⟩
theorem zKx{f:Nat->Option Nat}{V V':List Ob}{L:List Ob}(h:V.length=V'.length)(j:Nat): (anch f 0 V V'++L)[j]?=((V'++L)[j]?).map fun o=>if j<V.length then anch1 (f j) o else o:=by
 rcases qAI j V.length with hj|hj
 ·rw[qAD (by rw[zEL];omega),zGI,qAD (by omega)]
  simp[hj]
 ·rw[qAC (by rw[zEL];omega),zEL,qAC (by omega)]
  cases L[j-V'.length]? with
  |none=>rfl
  |some o=>rw[qAy,if_neg (by omega)]
theorem zRu{P:Program}{f:FuncId}{fn:Func}{c:Code}{as:List SV}{V:List Ob}{H:List (Nat×D)}{Y:Type}{ok:Y->Prop}{res:Y->SV}{V':Y->List Ob}{H':Y->List (Nat×D)}{N:Nat}{rs:Array ResultVar}(hf:P.funcs[f]?=some fn)(hb:fn.body=some c)(hN:fn.ntmps=N)(hrs:fn.results=rs)(hl:Nat.ble as.length N=true)
  (hk:∀y,ok y->zDN V (V' y)=true/\zDa (V' y)=true/\∀(j b:Nat) (d:D),H[j]?=some (b,d)->∃d',(H' y)[j]?=some (b,d'))
  (h:∀(w0:World) (St0:Stab) (X:Nat->Prop) (fx:Nat->Option Nat),awp ⟨P,N,w0,St0,X,0⟩ c (zC7 rs ok res fun y=>anch fx 0 V (V' y)++hidL (H' y)) (zJx as 0) (anch fx 0 V V++hidL H)):zDI P f as V H ok res V' H':=by
 intro g w vs hi hrep
 subst hN
 have hl:=qAH hl
 have hlen:=hrep.len
 have hI0:Inv g w (anch g.blk 0 V V++hidL H):=by
  refine⟨by rw[hi.n];simp[zEL],hi.lt,hi.dead,hi.inj,fun id o ho=>?_,hi.st,hi.gl⟩
  rw[zKx rfl]at ho
  cases hp:(V++hidL H)[id]? with
  |none=>rw[hp]at ho;cases ho
  |some p =>
   rw[hp]at ho;injection ho with ho;subst ho
   split
   ·exact(hi.ob id p hp).anch1
   ·exact hi.ob id p hp
 refine calls_of_wp hf hb (h w g.St (fun b=>∃j,g.blk j=some b) g.blk _ ?_ _ _ ?_)
 ·intro e σ' η' a' w' hq ha
  obtain⟨y,hy,hq⟩:=hq
  obtain⟨k1,k2,k3⟩:=hk y hy
  obtain⟨s1,s2⟩:=zCv k1
  have fin:MRes rs (res y) (anch g.blk 0 V (V' y)++hidL (H' y)) σ' η'->a'.defers=[]/\∃v,(results fn a'.tmps).run P w' = .ok v w'/\∃y,ok y/\∃v_1 g',Ending.returned v=.returned v_1/\Inv g' w' (V' y++hidL (H' y))/\RepS g' w' v_1 (res y)/\Frame g w (V++hidU H) g' w':=by
   intro hq
   obtain⟨v,g',σ2,hr,hA,hrep'⟩:=hq.abs (P:=P) hrs ha
   have hob:∀j o,(V' y++hidL (H' y))[j]?=some o->ObOk g' w' j o/\(j<V.length->zFb o=true->∃b,g'.blk j=some b/\∀c,g.blk j=some c->c=b):=by
    intro j o ho
    have h1:=hA.inv.ob j (if j<V.length then anch1 (g.blk j) o else o) (by rw[zKx s2,ho];rfl)
    by_cases hj:j<V.length
    ·rw[if_pos hj]at h1
     rw[qAD (by omega)]at ho
     obtain⟨u1,u2⟩:=h1.unanch1 (qAF.1 k2 o (qAE ho))
     exact⟨u1,fun _ hb=>u2 hb⟩
    ·rw[if_neg hj]at h1;exact⟨h1,fun h=>absurd h hj⟩
   have hI:Inv g' w' (V' y++hidL (H' y)):=⟨by have:=hA.inv.n;simpa[zEL]using this,hA.inv.lt,hA.inv.dead,hA.inv.inj,fun j o ho=>(hob j o ho).1,hA.inv.st,hA.inv.gl⟩
   refine⟨hA.defers,v,hr,y,hy,v,g',rfl,hI,hrep',⟨hA.os,hA.tape,hA.output,hA.wsize,fun k hk hno=>hA.heap k hk (fun ⟨j,hj⟩=>hno j hj),hA.keep,fun b o hbo=>hA.new b o hbo,fun j b hj=>hA.own j b hj (qAR _),fun j o hj hob'=>?_⟩⟩
   rcases qAI j V.length with hjl|hjl
   ·rw[qAD hjl]at hj
    obtain⟨p,hp⟩:∃p,(V' y)[j]?=some p:=⟨_,qAB (by omega)⟩
    have hs:=zDn s1 j _ _ hj hp
    obtain⟨b',hb',hc'⟩:=(hob j p (by rw[qAD (by omega)];exact hp)).2 hjl (zDv.2 (by rw[<-hs];exact zDv.1 hob'))
    obtain⟨b,o1⟩:=zKB (hi.ob j o (by rw[qAD hjl];exact hj)) hob'
    rw[hb',o1,hc' b o1]
   ·rw[qAC hjl,qAG]at hj
    cases hq':H[j-V.length]? with
    |none=>rw[hq']at hj;cases hj
    |some q =>
     obtain⟨d',hd'⟩:=k3 _ q.1 q.2 hq'
     obtain⟨b,e1,us,o1,o2,o3,o4,o5,o6,o7⟩:=hi.ob j (.bx (some q.1) none [.d q.2]) (by rw[qAC hjl,qAG,hq'];rfl)
     obtain⟨b2,e2,us2,p1,p2,p3,p4,p5,p6,p7⟩:=hI.ob j (.bx (some q.1) none [.d d']) (by rw[qAC (by omega),qAG,<-s2,hd'];rfl)
     rw[o1,p1,<-o7.1 q.1 rfl,<-p7.1 q.1 rfl]
  cases e <;> first|exact fin hq|exact hq.elim
 ·refine⟨g,rfl,?_,hI0,rfl,rfl,rfl,qAM _,fun _ _ _=>rfl,Keep.refl g.St w,fun _ _ h=>.inl h,fun i b hb _=>.inr ⟨i,hb⟩,?_⟩
  ·simp[hlen];omega
  ·refine zEy vs as 0 _ hrep fun j v hj=>?_
   have hjl:j<vs.length:=(qAA.1 hj).1
   simp only[qAU,qAN]
   rw[qAf (by simpa using hjl)]
   simp[hj]
def rotπ(m p q k:Nat): Nat:=if k<m then k else if k<m+q then k+p else if k<m+q+p then k-q else k
theorem zQ2{m p q i j:Nat}(h:rotπ m p q i=rotπ m p q j): i=j:=by
 unfold rotπ at h
 repeat' split at h
 all_goals omega
def rotG(m p q:Nat)(g:Gh): Gh:={ g with blk:=fun k=>g.blk (rotπ m p q k),cap:=fun k=>g.cap (rotπ m p q k),sz:=fun k=>g.sz (rotπ m p q k) }
section
variable {C:Ctx}{σ:Sl}{η:List Ob}
theorem Abs.rot{a:Act}{w:World}{vis A B:List Ob}{m:Nat}(hm:vis.length=m)(hσ:zDl m σ=true)(hv:vis.all (Ob.below m)=true)(hA:∀p∈A,p.below m=true)(hB:∀p∈B,p.below m=true)(hro:C.ro<=m)
  (h:Abs C σ (vis++(A++B)) a w):Abs C σ (vis++(B++A)) a w:=by
 obtain⟨g,ha⟩:=h
 have hgn:g.n=m+A.length+B.length:=by rw[ha.inv.n];simp;omega
 have hlow:∀k,k<m->(rotG m A.length B.length g).blk k=g.blk k/\(rotG m A.length B.length g).cap k=g.cap k/\(rotG m A.length B.length g).sz k=g.sz k:=fun k hk=>by
  have:rotπ m A.length B.length k=k:=by unfold rotπ;rw[if_pos hk]
  exact⟨congrArg g.blk this,congrArg g.cap this,congrArg g.sz this⟩
 have mv:∀{i j:Nat} {p:Ob},p.below m=true->rotπ m A.length B.length j=i->ObOk g w i p->ObOk (rotG m A.length B.length g) w j p:=fun {i j p} hp e h =>
  ObOk.move (g:=g) (g2:=rotG m A.length B.length g) (i:=i) (j:=j) hp (by omega) (by show m<=g.n;omega) rfl hlow ⟨congrArg g.blk e,congrArg g.cap e,congrArg g.sz e⟩ h
 refine⟨rotG m A.length B.length g,{ ha with inv:=?_,own:=fun id b hb hr=>?_,rep:=fun t=>?_,keep:=ha.keep,new:=ha.new }⟩
 ·refine { n:=?_,lt:=fun id b hb=>ha.inv.lt _ b hb,dead:=fun id hid'=>?_,inj:=fun p q b hp hq=>zQ2 (ha.inv.inj _ _ b hp hq),ob:=fun id p hp=>?_,st:=ha.inv.st,gl:=ha.inv.gl }
  ·show g.n=_;rw[hgn];simp;omega
  ·have hid':g.n<=id:=hid'
   have:rotπ m A.length B.length id=id:=by unfold rotπ;rw[if_neg (by omega),if_neg (by omega),if_neg (by omega)]
   show g.blk (rotπ m A.length B.length id)=none
   rw[this];exact ha.inv.dead id hid'
  ·rcases qAI id m with h1|h1
   ·rw[qAD (by omega)]at hp
    refine mv (qAF.1 hv p (qAE hp)) (by unfold rotπ;rw[if_pos h1]) (ha.inv.ob id p ?_)
    rw[qAD (by omega)];exact hp
   ·rw[qAC (by omega),hm]at hp
    rcases qAI (id-m) B.length with h2|h2
    ·rw[qAD h2]at hp
     refine mv (hB p (qAE hp)) (i:=id+A.length) (by unfold rotπ;rw[if_neg (by omega),if_pos (by omega)]) (ha.inv.ob _ p ?_)
     rw[qAC (by omega),hm,qAC (by omega),show id+A.length-m-A.length=id-m by omega];exact hp
    ·rw[qAC h2]at hp
     have hl:=(qAA.1 hp).1
     refine mv (hA p (qAE hp)) (i:=id-B.length) (by unfold rotπ;rw[if_neg (by omega),if_neg (by omega),if_pos (by omega)]) (ha.inv.ob _ p ?_)
     rw[qAC (by omega),hm,qAD (by omega),show id-B.length-m=id-m-B.length by omega];exact hp
 ·rcases qAI id m with h1|h1
  ·refine ha.own id b ?_ hr
   rw[<-(hlow id h1).1];exact hb
  ·refine ha.own (rotπ m A.length B.length id) b hb ?_
   unfold rotπ
   rw[if_neg (by omega)]
   split
   ·omega
   ·split <;> omega
 ·refine RepS.ext (g:=cut g m) (g':=rotG m A.length B.length g) (Keep.refl g.St w) (fun k hk=>?_) (by show m<=g.n;omega) ((ha.rep t).cut (m:=m) (by omega) (zGG hσ t))
  have hk2:k<m:=hk
  obtain⟨a1,a2,a3⟩:=hlow k hk2
  refine⟨?_,a2,a3⟩
  rw[a1];unfold cut;simp[hk2]
theorem zT9{Q:Exit->Sl->List Ob->Prop}{c:Code}(H:List (Nat×D))(m k:Nat)(hη:η.drop (m+k)=hidL H)(hm:(η.take m).length=m)(hσ:zDl m σ=true)(hv:(η.take m).all (Ob.below m)=true)(hA:((η.drop m).take k).all (Ob.below m)=true)(hro:Nat.ble C.ro m=true)
  (h:awp C c Q σ (η.take m++(hidL H++(η.drop m).take k))):awp C c Q σ η:=by
 intro R hR a w hab
 refine h R hR a w ?_
 have e:η=η.take m++((η.drop m).take k++hidL H):=by
  rw[<-hη,<-List.drop_drop,qAj,qAj]
 rw[e]at hab
 exact hab.rot hm hσ hv (fun p hp=>qAF.1 hA p hp) (fun p hp=>zCy (qAR _) (zAh H p hp).bel) (qAH hro)
end
section
variable {C:Ctx}{ops:Array Oper}{rest:List Oper}{K:Sl->List Ob->Prop}{σ:Sl}{η:List Ob}{d:Nat}{ty:TypeId}{pos:String}{after:Array Edge}{gd:Option (Nat×Bool)}
theorem zQW{x:Operand}{cs:List D}{f:FuncId}{args:List Operand}{ts:Array TypeId}{as:List SV}{V:List Ob}{H:List (Nat×D)}{Y:Type}{ok:Y->Prop}{res:Y->SV}{V':Y->List Ob}{H':Y->List (Nat×D)}(m:Nat)(ids:List Nat)(hx:oval σ x=.d (.clo f cs))(hb:zAK C.P f=true)(hc:zDI C.P f (as++cs.map SV.d) V H ok res V' H')
  (hη:η.drop m=hidL H) (hm:(η.take m).length=m) (hv:(η.take m).all (Ob.below m)=true) (hσ:zDl m σ=true) (ha:SArgs σ ids args as) (hp:Picks (η.take m) ids V) (hd:Nat.blt d C.N=true) (hn:ids.Nodup) (hlen:ids.length=V.length) (hids:ids.all (fun i=>Nat.blt i m)=true) (hu:zDa V=true)
  (hbl:V.all (Ob.below V.length)=true) (hba:as.all (SV.bel V.length)=true) (hro:Nat.ble C.ro m=true) (hroi:ids.all (fun i=>Nat.ble C.ro i)=true)
  (hk:∀y,ok y->zDN V (V' y)=true/\(V' y).all (Ob.below V.length)=true/\(res y).bel V.length=true/\∀(j b:Nat) (d:D),H[j]?=some (b,d)->∃d',(H' y)[j]?=some (b,d'))
  (h:∀y,ok y->alex C false ops rest K ((d,(res y).ren ids)::zEu (zBO ids V) ids σ) (zC9 (zDZ (zBO ids V) ids (η.take m)) ids ((V' y).map (Ob.ren ids))++hidL (H' y))) :
  zA3 C false ops ⟨some d,.call ⟨.value x,args.toArray,ts⟩,ty,pos,after,gd⟩ rest K σ η:=by
 intro Q hQ a w ⟨g,hg⟩ K' hK'
 have hro:=qAH hro
 have hids':∀i∈ids,i<m:=fun i hi=>by have:=qAF.1 hids i hi;simpa using this
 generalize hvis:η.take m=vis at *
 have heη:η=vis++hidL H:=by rw[<-hvis,<-hη,qAj]
 subst heη
 have hml:vis.length=m:=hm
 have hge:=zFx m H.length
 have hlen':(ids++List.range' m H.length).length=(V++hidU H).length:=by simp[hlen]
 have hn':(ids++List.range' m H.length).Nodup:=qBZ.2 ⟨hn,List.nodup_range',fun a ha b hb e=>by subst e;have:=hids' a ha;have:=hge a hb;omega⟩
 have hp':Picks (vis++hidL H) (ids++List.range' m H.length) (V++hidU H):=by
  unfold Picks at hp ⊢
  rw[qAh,qAh]
  congr 1
  ·have e1:(ids.map fun i=>((vis++hidL H)[i]?).map Ob.forget)=ids.map fun i=>(vis[i]?).map Ob.forget:=qA1 fun i hi=>by rw[qAD (by have:=hids' i hi;omega)]
   rw[e1,hp]
   exact qA1 fun p hpm=>by rw[zHZ (by rw[hlen];exact qAF.1 hbl p hpm)]
  ·refine qBY fun j=>?_
   rw[qAG,qAG,qAG]
   rcases qAI j H.length with hj|hj
   ·rw[qBV hj,qAB hj]
    show some (((vis++hidL H)[m+1*j]?).map Ob.forget)=some (some _)
    rw[qAC (by omega),show m+1*j-vis.length=j by omega,qAG,qAB hj];rfl
   ·rw[qAd (by simpa using hj),qAd hj];rfl
 have hpu:zDa (V++hidU H)=true:=by
  unfold zDa at hu ⊢
  rw[qBT,hu,qBE]
  exact qAF.2 fun p hpm=>by obtain⟨q,_,rfl⟩:=qAu.1 hpm;rfl
 have hpb:(V++hidU H).all (Ob.below (V++hidU H).length)=true:=by
  rw[qBT,qAP]
  refine⟨qAF.2 fun p hpm=>zCy (by simp) (qAF.1 hbl p hpm),qAF.2 fun p hpm=>?_⟩
  obtain⟨q,_,rfl⟩:=qAu.1 hpm;rfl
 have hI0:=hg.inv.callee hn' hlen' hp' hpu hpb
 have hI1:Inv (zBP g (ids++List.range' m H.length)) w (V++hidL H):=by
  refine { hI0 with n:=by rw[hI0.n];simp,ob:=fun id o ho=>?_ }
  rcases qAI id V.length with h1|h1
  ·rw[qAD h1]at ho
   exact hI0.ob id o (by rw[qAD h1];exact ho)
  ·rw[qAC h1,qAG]at ho
   cases hq:H[id-V.length]? with
   |none=>rw[hq]at ho;cases ho
   |some q =>
    rw[hq]at ho;injection ho with ho;subst ho
    have hjl:=(qAA.1 hq).1
    obtain⟨b,e,us,o1,o2,o3,o4,o5,o6,o7⟩:=hI0.ob id (.bx none none [.d q.2]) (by rw[qAC h1,qAG,hq];rfl)
    obtain⟨b2,e2,us2,p1,p2,p3,p4,p5,p6,p7⟩:=hg.inv.ob (m+(id-V.length)) (.bx (some q.1) none [.d q.2]) (by rw[qAC (by omega),qAG,show m+(id-V.length)-vis.length=id-V.length by omega,hq];rfl)
    refine⟨b,e,us,o1,o2,o3,o4,o5,o6,(fun c hc=>?_),o7.2⟩
    have hc2:=p7.1 c hc
    have hgi:(zBP g (ids++List.range' m H.length)).blk id=g.blk (m+(id-V.length)):=by
     show ((ids++List.range' m H.length)[id]?).bind g.blk=_
     rw[qAC (by omega),qBV (by omega),show m+1*(id-ids.length)=m+(id-V.length) by omega];rfl
    rw[hgi,p1]at o1
    injection o1 with o1
    rw[hc2,o1]
 have hba':as.all (SV.bel (V++hidU H).length)=true:=qAF.2 fun s hs=>by
  have:=zCy (m:=V.length) (n:=(V++hidU H).length) (by simp) (p:=.bx none none [s]) (by show (s.bel V.length&&true)=true;rw[qAF.1 hba s hs];rfl)
  have h2:(s.bel (V++hidU H).length&&true)=true:=this
  simpa using h2
 have ha':SArgs σ (ids++List.range' m H.length) args as:=by
  have key:∀(xs:List Operand) (ss:List SV),ss.all (SV.bel V.length)=true->SArgs σ ids xs ss->SArgs σ (ids++List.range' m H.length) xs ss:=by
   intro xs
   induction xs with
   |nil=>intro ss _ h;cases ss with
    |nil=>exact h
    |cons=>exact h.elim
   |cons x xs ih=>intro ss hs h;cases ss with
    |nil=>exact h.elim
    |cons s ss =>
     simp only[List.all_cons,qAP]at hs
     exact⟨by rw[zHY (by rw[hlen];exact hs.1)];exact h.1,ih ss hs.2 h.2⟩
  exact key args as hba ha
 obtain⟨e1,e2⟩:=ha'.rep hg
 unfold Oper.wp
 have hxr:=hg.eval x;rw[hx]at hxr
 obtain⟨ws,hwv,hwl,hws⟩:∃ws:List Value,a.eval x=.func (.func f) #[] ws.toArray/\ws.length=cs.length/\∀(j:Nat) (u:Value) (d:D),ws[j]?=some u->cs[j]?=some d->RepD g.St w u d:=by
  change RepD _ _ _ _ at hxr
  generalize a.eval x=v at hxr
  cases hxr with
  |clo f vs ds hl h=>exact⟨vs,rfl,hl,h⟩
 have hrun:(execOp a.eval ⟨some d,.call ⟨.value x,args.toArray,ts⟩,ty,pos,after,gd⟩).run C.P w=.ok (.enter f (args.map a.eval++ws).toArray) w:=by
  simp only[execOp,resolve,hwv,Deferred.ofValue,invoke,Sem.run_bind,Sem.run_pure,Result.andThen_ok,qAv,qBF]
  rw[List.append_toArray]
  exact zCQ hb
 have e2':∀(j:Nat) v s,(args.map a.eval++ws)[j]?=some v->(as++cs.map SV.d)[j]?=some s->RepS g w v (s.ren (ids++List.range' m H.length)):=by
  intro j v s hv hs
  rcases qAI j as.length with hj|hj
  ·rw[qAD (by simp[e1];exact hj)]at hv
   rw[qAD hj]at hs
   exact e2 j v s hv hs
  ·rw[qAC (by simp[e1];exact hj)]at hv
   rw[qAC hj,qAG]at hs
   rw[qAK,e1]at hv
   cases hq:cs[j-as.length]? with
   |none=>rw[hq]at hs;cases hs
   |some q =>
    rw[hq]at hs;injection hs with hs;subst hs
    exact hws _ v q hv hq
 rw[hrun,Oper.upon_enter]
 have hr:=RepSs.callee (g:=g) (w:=w) hlen' (args.map a.eval++ws) (as++cs.map SV.d) e2' (by simp[e1,hwl]) (by
  rw[qBT,hba',qBE]
  exact qAF.2 fun s hs=>by obtain⟨d,_,rfl⟩:=qAu.1 hs;rfl)
 refine(hc _ w _ hI1 hr).mono fun e w' ⟨y,hy,v,g',he,hI,hres,hF⟩=>?_
 subst he
 obtain⟨k1,k2,k3,k4⟩:=hk y hy
 obtain⟨s1,s2⟩:=zCv k1
 have hle:H.length<=(H' y).length:=by
  rcases qAI (H' y).length H.length with h|h
  ·obtain⟨d',h'⟩:=k4 (H' y).length (H[(H' y).length]).1 (H[(H' y).length]).2 (by rw[qAB h])
   rw[qAd (qAM _)]at h';cases h'
  ·exact h
 obtain⟨g2,h1,h2⟩:=hg.called hn' hlen' hp' (zDm k1 hle) (by
  rw[qBT,hroi,qBE]
  exact qAF.2 fun i hi=>Nat.ble_eq_true_of_le (qAi hro (hge i hi))) hI hres hF
 have eb:zBO (ids++List.range' m H.length) (V++hidU H)=zBO ids V:=zGi hlen (by simp)
 rw[zN4 hml hlen s2.symm hids' hn hv k2 k4,eb,zHM hge hσ]at h1
 have e3:(res y).ren (zDj (ids++List.range' m H.length) (vis++hidL H).length (V++hidU H) (V' y++hidL (H' y)))=(res y).ren ids:=by
  unfold zDj
  rw[qAY]
  exact zHY (by rw[hlen];exact k3)
 rw[e3]at h2
 exact hK' _ _ (h y hy Q hQ _ w' ⟨g2,h1.put (d:=some d) hd h2⟩)
end
def Met(P:Program)(t:TypeId)(name:String)(f:FuncId): Prop:=∀(v:Value) (w:World),(method (P.types.size+Made.depth) t v name).run P w=.ok (f,v) w
def metB(P:Program)(t:TypeId)(name:String)(f:FuncId): Bool :=
 match P.info? t with
 |some i=>match i.methods.find? (·.name==name),P.underlying t with
  |some m,some u=>m.path.isEmpty&&(match m.func,u with
   |some (g,true),.pointer _=>g==f
   |some (_,false),.pointer _=>false
   |some (g,false),_=>g==f
   |_,_=>false)
  |_,_=>false
 |none=>false
theorem zIU{P:Program}{t:TypeId}{name:String}{f:FuncId}(h:metB P t name f=true): Met P t name f:=by
 intro v w
 unfold metB at h
 split at h
 ·rename_i i hi
  split at h
  ·rename_i m u hm hu
   simp only[qAP]at h
   obtain⟨h1,h2⟩:=h
   have e:P.types.size+Made.depth=(P.types.size+(Made.depth-1))+1:=by(have h:1<=Made.depth:=(by decide));omega
   rw[e]
   have hp:m.path.toList=[]:=by simpa[Array.isEmpty_iff]using h1
   have ht:(typeInfo t).run P w=.ok i w:=by unfold typeInfo;simp[Sem.run_bind,run_program,hi]
   have hu':(underlying t).run P w=.ok u w:=by unfold underlying;simp[Sem.run_bind,run_program,hu]
   unfold method
   simp only[Sem.run_bind,ht,Result.andThen_ok,hm,hp,follow,Sem.run_pure]
   split at h2
   ·rename_i q g el hq
    have:g=f:=by simpa using h2
    subst this
    simp[hq,receiverAt,Sem.run_bind,hu',Place.get]
   ·cases h2
   ·rename_i u1 _ _ g hq hne
    have:g=f:=by simpa using h2
    subst this
    cases u1 <;> first|exact(hne _ rfl).elim|simp[hq,receiverAt,Sem.run_bind,hu',Place.get]
   ·cases h2
  ·cases h
 ·cases h
section
variable {P:Program}{η:List Ob}{σ:Sl}{dst:Option Nat}{ty:TypeId}{pos:String}{after:Array Edge}{gd:Option (Nat×Bool)}
end
open Go.RowKit
section
variable {P:Program}{η:List Ob}{σ:Sl}{dst:Option Nat}{ty:TypeId}{pos:String}{after:Array Edge}{gd:Option (Nat×Bool)}
theorem zCk{t:TypeId}{x:Operand}{d:D}(hx:oval σ x=.d d)(hk:okc d=true): Ylds P η σ ⟨dst,.box t x,ty,pos,after,gd⟩ (.d (.ref d.flat)):=by
 intro g w a hinv hop
 refine .inl ?_
 have hr:=hop x (by simp[Op.operands])
 rw[hx]at hr
 obtain⟨h1,h2,h3⟩:=hr.cells (zHU hk)
 rw[qAK]at h1
 generalize hv:a.eval x=v at *
 let g':Gh:={ g with St:=fun b o=>g.St b o\/(b=w.heap.size/\o<v.cells.size) }
 have hgr:Grow g w g' (w.alloc (.cells v.cells t)):=⟨rfl,rfl,rfl,rfl,rfl,rfl,rfl,by simp,fun k hk=>Below.heap_alloc w _ k hk,fun _ _ h=>.inl h,fun b o h=>h.imp_right fun h=>by omega,fun b o h=>by
  rcases h with h|h
  ·exact qAV (hinv.st b o h) (by simp)
  ·rw[h.1];simp⟩
 refine⟨.pointer (some ⟨w.heap.size,0,none⟩),g',w.alloc (.cells v.cells t),by simp[execOp,Instr.box,newVar,newRow,hv],hgr,?_⟩
 refine RepD.ref ⟨w.heap.size,0,none⟩ v.cells.toList d.flat (by rw[qAS,h1]) (fun u hu=>h2 u (by simpa using hu)) (fun j u hu=>⟨.inr ⟨rfl,?_⟩,?_⟩) fun j u e hu he=>?_
 ·have:=(qAA.1 hu).1
  simpa using this
 ·rw[Addr.add_lit,qAU,cell_of_row _ _ j v.cells t (0,0) (_root_.Go.heap_alloc_new w _)]
  simpa using hu
 ·have h4:RepD g.St w u e:=h3 j u (.d e) (by simpa using hu) (by rw[qAG,he];rfl)
  exact h4.keep (hgr.keep hinv.st)
theorem RepDs.get{St:Stab}{w:World}: ∀{vs:List Value} {ds:List D},RepDs St w vs ds->∀(j:Nat) (u:Value) (d:D),vs[j]?=some u->ds[j]?=some d->RepD St w u d
 |[],[],_,j,u,d,h,_=>by simp at h
 |v::vs,d::ds,h,0,u,e,hu,he=>by injection hu with hu;injection he with he;subst hu he;exact h.1
 |v::vs,d::ds,h,j+1,u,e,hu,he=>RepDs.get h.2 j u e (by simpa using hu) (by simpa using he)
 |[],_::_,h,_,_,_,_,_=>h.elim
 |_::_,[],h,_,_,_,_,_=>h.elim
theorem zFB{f:FuncId}{xs:List Operand}{ds:List D}(hc:CoL η σ xs ds): Ylds P η σ ⟨dst,.makeFunc (.func f) #[] xs.toArray,ty,pos,after,gd⟩ (.d (.clo f ds)):=by
 intro g w a hi hop
 have hr:=CoL.rep (a:=a) hi xs ds (fun y hm=>hop y (by simp[Op.operands,hm])) hc
 refine .inl ⟨.func (.func f) #[] (xs.map a.eval).toArray,g,w,by simp[execOp,Instr.makeFunc],Grow.refl hi.st,?_⟩
 exact .clo f (xs.map a.eval) ds hr.len hr.get
theorem Ylds.dref{o:Oper}{s:SV}{k:Nat}{cs:List D}(hk:get σ k=.d (.ref cs))(h:Ylds P η ((k,.rptr cs)::σ) o s): Ylds P η σ o s:=by
 intro g w a hi hx
 refine h g w a hi fun x hm=>?_
 have h1:=hx x hm
 cases x with
 |tmp j =>
  show RepS g w (a.eval (.tmp j)) (get ((k,.rptr cs)::σ) j)
  rw[zA7]
  split
  ·rename_i e;subst e
   have h2:RepS g w (a.eval (.tmp k)) (get σ k):=h1
   rw[hk]at h2
   exact RepD.rptr h2
  ·exact h1
 |_=>exact h1
theorem zDB{t:TypeId}{k f off:Nat}{cs:List D}(hx:get σ k=.d (.ref cs))(hf:zAt P t f=some off): Ylds P η σ ⟨dst,.fieldAddr t (.tmp k) f,ty,pos,after,gd⟩ (.rptr (cs.drop off)) :=
 Ylds.dref hx (zA1 (by simp[oval,zA7]) hf)
theorem zK1{t:TypeId}{k n:Nat}{cs:List D}(hx:get σ k=.d (.ref cs))(ht:zA9 P t=some (true,n))(hn:Nat.ble n cs.length=true): Ylds P η σ ⟨dst,.load t (.tmp k),ty,pos,after,gd⟩ (.d (.agg (cs.take n))) :=
 Ylds.dref hx (zAg (by simp[oval,zA7]) ht hn)
theorem zCh{x:Operand}{cs:List D}(hx:oval σ x=.d (.ref cs)): Ylds P η σ ⟨dst,.nilCheck x,ty,pos,after,gd⟩ (.rptr cs):=by
 refine Ylds.same fun g w a hi h=>⟨a.eval x,?_,?_⟩
 ·have h1:=h x (by simp[Op.operands]);rw[hx]at h1
  obtain⟨ad,us,hv,_⟩:=RepD.rptr h1
  simp[execOp,hv]
 ·have h1:=h x (by simp[Op.operands]);rw[hx]at h1;exact RepD.rptr h1
theorem zLs{t yt:TypeId}{x y:Operand}{cs:List D}(hx:oval σ x=.d (.ref cs))(hy:oval σ y=.d (.val (.pointer none)))(hu:P.underlying t=some (.pointer (P.pointee t))): Ylds P η σ ⟨dst,.binOp .neq t x y yt,ty,pos,after,gd⟩ (.d (.val (.bool true))):=by
 refine Ylds.same fun g w a hi h=>⟨.bool true,?_,.val _⟩
 have h1:=h x (by simp[Op.operands]);rw[hx]at h1
 have h2:=h y (by simp[Op.operands]);rw[hy]at h2
 obtain⟨ad,us,hv,_⟩:=RepD.rptr h1
 have:=run_neq_pointer_nil (P:=P) w t (some ad) hu
 simp only[execOp,hv,RepD.val_eq h2,eqGuard_at_pointer,Sem.run_bind,Sem.run_pure,Result.andThen_ok,this]
 rfl
theorem zN2{t yt:TypeId}{x y:Operand}(hx:oval σ x=.d (.val (.pointer none)))(hy:oval σ y=.d (.val (.pointer none)))(hu:P.underlying t=some (.pointer (P.pointee t))): Ylds P η σ ⟨dst,.binOp .neq t x y yt,ty,pos,after,gd⟩ (.d (.val (.bool false))):=by
 refine Ylds.same fun g w a hi h=>⟨.bool false,?_,.val _⟩
 have h1:=h x (by simp[Op.operands]);rw[hx]at h1
 have h2:=h y (by simp[Op.operands]);rw[hy]at h2
 have:=run_neq_pointer_nil (P:=P) w t none hu
 simp only[execOp,RepD.val_eq h1,RepD.val_eq h2,eqGuard_at_pointer,Sem.run_bind,Sem.run_pure,Result.andThen_ok,this]
 rfl
end
section
variable {C:Ctx}{σ:Sl}{η:List Ob}{d:Nat}
theorem zCD{Q:Exit->Sl->List Ob->Prop}{c:Code}(hid:List Ob)(m:Nat){o:Ob}{n:Nat}(hn:η.length=n)(hη:η.drop m=hid)(hm:(η.take m).length=m)(hσ:zDl m σ=true)(hv:(η.take m).all (Ob.below m)=true)(hh:∀p∈hid,dataOb p)(ho:o.below m=true)(hro:Nat.ble C.ro m=true)
  (h:awp C c Q ((d,.ptr m 0)::σ) (η.take m++(o::hid))):awp C c Q ((d,.ptr n 0)::σ) (η++[o]):=by
 intro R hR a w hab
 refine h R hR a w ?_
 have e:η++[o]=η.take m++(hid++[o]):=by rw[<-hη,<-qAY,qAj]
 have hl:hid.length+m=η.length:=by
  rw[<-hη,qAl]
  rw[qAT]at hm;omega
 rw[e,<-hn]at hab
 exact hab.ins hm hl hσ hv (fun p hp=>(hh p hp).bel) ho (qAH hro)
end
end Go.Sx
namespace Go.Sx
section
variable {C:Ctx}{ops:Array Oper}{rest:List Oper}{K:Sl->List Ob->Prop}{σ:Sl}{η:List Ob}{d:Nat}{ty:TypeId}{pos:String}{after:Array Edge}{gd:Option (Nat×Bool)}
theorem zTM{g:Gh}{a:Act}{w:World}(hg:AbsG C g σ η a w){x:Operand}{name:String}{T:TypeId}{e:D}{f:FuncId}{args:List Operand}{ts:Array TypeId}{dst:Option Nat}(hx:oval σ x=.d (.ifc T e))(hm:Met C.P T name f)(hb:zAK C.P f=true):
  ∃v,RepD g.St w v e/\(execOp a.eval ⟨dst,.call ⟨.invoke x name,args.toArray,ts⟩,ty,pos,after,gd⟩).run C.P w=.ok (.enter f (v::args.map a.eval).toArray) w:=by
 have hv:=hg.eval x
 rw[hx]at hv
 obtain⟨v,hv1,hv2⟩:=zLR hv
 refine⟨v,hv2,?_⟩
 have e:((#[(Value.iface T v)]++(args.toArray.map a.eval)).extract 1 (#[(Value.iface T v)]++(args.toArray.map a.eval)).size)=(args.map a.eval).toArray:=by
  simp[List.take_of_length_le]
 simp only[execOp,resolve,hv1,invoke,callMethod,Sem.run_bind,Sem.run_pure,Result.andThen_ok]
 rw[e]
 simp[hm v w,Sem.run_bind,run_program]
 have h:=zCQ (args:=(v::args.map a.eval).toArray) (w:=w) hb
 simpa using h
theorem zLr{x:Operand}{name:String}{T:TypeId}{e:D}{f:FuncId}{args:List Operand}{ts:Array TypeId}{as:List SV}{pre post:List Ob}{res:SV}(ids:List Nat)(hx:oval σ x=.d (.ifc T e))(hm:Met C.P T name f)(hb:zAK C.P f=true)(hc:zBD C.P f (.d e::as) pre res post)(ha:SArgs σ ids args as)(hp:Picks η ids pre)(hd:Nat.blt d C.N=true)
  (hn:ids.Nodup) (hlen:ids.length=pre.length) (hu:zDa pre=true) (hbl:pre.all (Ob.below pre.length)=true) (hba:as.all (SV.bel pre.length)=true) (hk:zCM pre post=true) (hro:ids.all (fun i=>Nat.ble C.ro i)=true)
  (h:alex C false ops rest K ((d,res.ren (zDj ids η.length pre post))::zEu (zBO ids pre) ids σ) (ηOf ids pre post η)) :
  zA3 C false ops ⟨some d,.call ⟨.invoke x name,args.toArray,ts⟩,ty,pos,after,gd⟩ rest K σ η:=by
 intro Q hQ a w ⟨g,hg⟩ K' hK'
 obtain⟨e1,e2⟩:=ha.rep hg
 unfold Oper.wp
 obtain⟨v,hv,hrun⟩:=zTM (ty:=ty) (pos:=pos) (after:=after) (gd:=gd) (args:=args) (ts:=ts) (dst:=some d) hg hx hm hb
 rw[hrun,Oper.upon_enter]
 have hr:=RepSs.callee (g:=g) (w:=w) hlen (v::args.map a.eval) (.d e::as) (fun j u s hu hs=>by
  cases j with
  |zero=>injection hu with hu;injection hs with hs;subst hu hs;exact hv
  |succ j=>exact e2 j u s (by simpa using hu) (by simpa using hs)) (by simp[e1]) (by show (true&&as.all _)=true;rw[hba];rfl)
 refine(hc (zBP g ids) w _ (hg.inv.callee hn hlen hp hu hbl) hr).mono fun e w' ⟨v,g',he,hI,hres,hF⟩=>?_
 subst he
 obtain⟨g2,h1,h2⟩:=hg.called hn hlen hp hk hro hI hres hF
 exact hK' _ _ (h Q hQ _ w' ⟨g2,h1.put (d:=some d) hd h2⟩)
theorem zUE{x:Operand}{name:String}{T:TypeId}{e:D}{f:FuncId}{args:List Operand}{ts:Array TypeId}{as:List SV}{pre post:List Ob}{res:SV}(ids:List Nat)(hx:oval σ x=.d (.ifc T e))(hm:Met C.P T name f)(hb:zAK C.P f=true)(hc:zBD C.P f (.d e::as) pre res post)(ha:SArgs σ ids args as)(hp:Picks η ids pre)(hd:Nat.blt d C.N=true)
  (hn:ids.Nodup) (hlen:ids.length=pre.length) (hu:zDa pre=true) (hbl:pre.all (Ob.below pre.length)=true) (hba:as.all (SV.bel pre.length)=true) (hk:zDN pre post=true) (hro:ids.all (fun i=>Nat.ble C.ro i)=true)
  (h:alex C false ops rest K ((d,res.ren ids)::zEu (zBO ids pre) ids σ) (zC9 (zDZ (zBO ids pre) ids η) ids (post.map (Ob.ren ids)))) :
  zA3 C false ops ⟨some d,.call ⟨.invoke x name,args.toArray,ts⟩,ty,pos,after,gd⟩ rest K σ η:=by
 obtain⟨hk1,hk2⟩:=zCv hk
 obtain⟨e3,e4⟩:=zIv (ids:=ids) (η:=η) hk2
 refine zLr ids hx hm hb hc ha hp hd hn hlen hu hbl hba hk1 hro ?_
 rw[e3,e4];exact h
end
open Go.RowKit
theorem zM1(a b:Nat): (a==b)=Nat.beq b a:=by
 rw[Bool.eq_iff_iff]
 simp only[beq_iff_eq,Nat.beq_eq]
 exact eq_comm
def kz(dead:List Nat)(b:Bool)(σ:Sl): Sl:=match b with
 |true=>dead.map (fun k=>(k,SV.top))++σ
 |false=>σ
theorem zLQ{dead:List Nat}{b:Bool}{σ:Sl}{t:Nat}(h:t∉dead): get (kz dead b σ) t=get σ t:=by
 cases b with
 |false=>rfl
 |true =>
  unfold kz
  induction dead with
  |nil=>rfl
  |cons d r ih =>
   rw[qBN,qBB,zA7,if_neg (fun e=>h (by rw[e];exact qA6))]
   exact ih fun hm=>h (qAt _ hm)
theorem zUo{dead:List Nat}{σ:Sl}{t:Nat}(h:t∈dead): get (kz dead true σ) t=.top:=by
 unfold kz
 induction dead with
 |nil=>cases h
 |cons d r ih =>
  rw[qBN,qBB,zA7]
  split
  ·rfl
  ·rename_i hne
   rcases qAs.1 h with e|e
   ·exact absurd e.symm hne
   ·exact ih e
theorem zUf{dead:List Nat}{b:Bool}{σ:Sl}{d:Option Nat}{s:SV}{t:Nat}(h:t∉dead): get (put (kz dead b σ) d s) t=get (put σ d s) t:=by
 cases d with
 |none=>exact zLQ h
 |some d =>
  rw[put,put,zA7,zA7]
  split
  ·rfl
  ·exact zLQ h
def zSi(l:List Oper)(dead:List Nat)(e0:Nat): Bool:=(l.zipIdx 0).all fun p=>Nat.beq p.2 e0||zD1 l.toArray l.length e0 p.2||((p.1.looksAt l.toArray).all (fun t=>!dead.any (Nat.beq t))&&match p.1.dst with
 |some t=>!dead.any (Nat.beq t)
 |none=>true)
theorem zMx{dead:List Nat}{t:Nat}(h:(!dead.any (Nat.beq t))=true): t∉dead:=fun hm=>by
 have:dead.any (Nat.beq t)=true:=qBH.2 ⟨t,hm,by simp⟩
 rw[this]at h;cases h
theorem zP7{l:List Oper}{dead:List Nat}{e0 j:Nat}{o:Oper}(h:zSi l dead e0=true)(ho:l[j]?=some o)(hj:j≠e0)(hr:zD1 l.toArray l.length e0 j=false): (∀t,t∈o.looksAt l.toArray->t∉dead)/\∀t,o.dst=some t->t∉dead:=by
 have hm:(o,j)∈l.zipIdx 0:=qA0.2 ⟨j,by rw[List.getElem?_zipIdx,ho,qAU];rfl⟩
 have:=qAF.1 h _ hm
 have hb:Nat.beq j e0=false:=by
  cases hq:Nat.beq j e0 with
  |false=>rfl
  |true=>exact absurd (qAW hq) hj
 simp only[hb,hr,qBW,qAP]at this
 refine⟨fun t ht=>zMx ?_,fun t ht=>zMx ?_⟩
 ·have h1:=this.1
  exact qAF.1 h1 t ht
 ·have h2:=this.2
  rw[ht]at h2;exact h2
def zJw(C:Ctx)(l:List Oper)(es:List Nat)(ηs:List (List Ob))(e0:Nat)(dead:List Nat)(nob:SV->Bool)(j:Nat)(o:Oper)(s:SV)(σ:Sl): Prop:=match idxC es j with
 |some i=>∀τ,(∀t,t∈o.looksAt l.toArray->get τ t=get σ t)->(Nat.beq j e0=true->∀t,t∉dead->nob (get τ t)=true)->EStep C o (fun σ' η'=>Le (kz dead (Nat.beq j e0) (put τ o.dst s)) σ'/\η'=ηs.getD (i+1) []) τ (ηs.getD i [])
 |none=>YAll C σ o s ((ηs.take (upC l es j+1)).drop (lowC l es j))
def segK(C:Ctx)(l:List Oper)(es:List Nat)(ηs:List (List Ob))(e0:Nat)(dead:List Nat)(nob:SV->Bool): Nat->List Oper->List SV->Sl->Prop
 |j,o::r,s::ss,σ=>(o.guard=none/\zEP C.N o.dst/\zJw C l es ηs e0 dead nob j o s σ)/\segK C l es ηs e0 dead nob (j+1) r ss (put σ o.dst s)
 |_,_,_,_=>True
theorem zOa{C:Ctx}{l:List Oper}{es:List Nat}{ηs:List (List Ob)}{e0:Nat}{dead:List Nat}{nob:SV->Bool}: ∀(r:List Oper) (ss:List SV) (j:Nat) (σ:Sl),segK C l es ηs e0 dead nob j r ss σ->∀(i:Nat) o s,r[i]?=some o->ss[i]?=some s->
  o.guard=none/\zEP C.N o.dst/\match idxC es (j+i)with
   |some k=>∀τ,(∀t,t∈o.looksAt l.toArray->get τ t=get (pst σ j r ss (fun m=>decide (m<j+i))) t)->(Nat.beq (j+i) e0=true->∀t,t∉dead->nob (get τ t)=true)->EStep C o (fun σ' η'=>Le (kz dead (Nat.beq (j+i) e0) (put τ o.dst s)) σ'/\η'=ηs.getD (k+1) []) τ (ηs.getD k [])
   |none=>∀(q:Nat) (η:List Ob),lowC l es (j+i)<=q->q<=upC l es (j+i)->ηs[q]?=some η->∀τ,(∀x∈o.op.operands,oval τ x=oval (pst σ j r ss (fun m=>decide (m<j+i))) x)->Ylds C.P η τ o s
 |_,[],_,_,_,i,o,s,_,hs=>by simp at hs
 |[],_::_,_,_,_,i,o,s,ho,_=>by simp at ho
 |o::r,s::ss,j,σ,h,0,o',s',ho,hs=>by
  simp at ho hs;subst ho;subst hs
  have e0':∀t,get (pst σ j (o::r) (s::ss) (fun m=>decide (m<j+0))) t=get σ t:=by
   intro t
   have:=zB9 t (o::r) (s::ss) σ σ j (fun m=>decide (m<j+0)) (fun _=>false) rfl (fun i o' hi hne=>by simp at hne)
   rw[this,zEI]
  obtain⟨⟨h1,h2,h4⟩,_⟩:=h
  refine⟨h1,h2,?_⟩
  unfold zJw at h4
  rw[qA5]at *
  split
  ·rename_i k hk
   rw[hk]at h4
   exact fun τ hτ=>h4 τ fun t ht=>by rw[hτ t ht,e0']
  ·rename_i hk
   rw[hk]at h4
   intro q η hq hq2 hη τ hτ
   refine(h4.get (q-lowC l es j) η ?_).congr fun x hx=>(hτ x hx).trans (zDO (fun t=>by rw[e0']) x)
   rw[qAz,Nat.add_sub_cancel' hq,qAX,if_pos (by omega)];exact hη
 |o::r,s::ss,j,σ,h,i+1,o',s',ho,hs=>by
  have:=zOa r ss (j+1) _ h.2 i o' s' (by simpa using ho) (by simpa using hs)
  have hj:j+(i+1)=j+1+i:=by omega
  have hd:decide (j<j+1+i)=true:=by simp;omega
  simp only[pst,hj,hd]
  exact this
theorem zKr{C:Ctx}{Q:Exit->Sl->List Ob->Prop}{σ:Sl}{η:List Ob}{id:Nat}{l:List Oper}(ss:List SV)(es:List Nat)(ηs:List (List Ob))(e0:Nat)(dead:List Nat)(nob:SV->Bool)
  (hE0:es.any (Nat.beq e0)=true) (hdl:zSi l dead e0=true) (hnob:∀(f:Nat->Bool),f e0=false->∀t,t∉dead->nob (get (pst σ 0 l ss f) t)=true)
  (hm:C.P.follows .mixedOrders=true) (hB:zEt l=true) (hsl:Nat.ble ss.length l.length=true) (hbar:ss.length=l.length\/zGj l.toArray (l.length-ss.length-1)=true) (hes:(es.all fun e=>Nat.blt e ss.length)=true) (hch:zKm l es=true)
  (hη:Nat.beq ηs.length (es.length+1)=true) (h0:ηs.getD 0 []=η)
  (hs:segK C l es ηs e0 dead nob 0 l ss σ) (h:alex C true l.toArray (l.drop ss.length) (Q .normal) (kz dead true (segσ l (ss.map .y) σ)) (ηs.getD es.length [])):awp C (.region id l.toArray true) Q σ η:=by
 intro R hR a w ⟨g,hg⟩
 have hsl:=qAH hsl
 have hη:=qAW hη
 have hd0:Abs C σ η a { w with drawn:=w.drawn+1 }:=⟨g,hg.grow ⟨rfl,rfl,rfl,rfl,rfl,rfl,rfl,qAM _,fun _ _=>rfl,fun _ _ h=>h,fun _ _ h=>.inl h,hg.inv.st⟩⟩
 have hsv:(ss.map SegK.y).map SegK.sv=ss:=by rw[List.map_map];exact List.map_id ss
 have hat:=zOa l ss 0 σ hs
 have hnd:es.Nodup:=by
  rw[List.nodup_iff_pairwise_ne,List.pairwise_iff_getElem]
  intro i j hi hj hij
  have:=(zGE hch i j _ _ hij (qAB hi) (qAB hj)).1
  omega
 let I:(Nat->Bool)->Act->World->Prop:=fun f a w=>Abs C (kz dead (f e0) (pst σ 0 l ss f)) (ηs.getD (cntC es f) []) a w
 have he0:e0∈es:=by obtain⟨x,hx,hq⟩:=qBH.1 hE0;rw[qAW hq];exact hx
 have he0l:e0<ss.length:=by have:=qAF.1 hes e0 he0;simpa using this
 refine wp_region_any hm (zOC (C:=C) (K:=Q .normal) (fun σ' η' a w hk hab=>hR _ _ _ _ _ hk hab) hB ss.length hsl hbar I ?_ ?_ _ _ a _ (by simp) ?_ ?_ (fun i _ hi=>?_) ?_)
 ·intro f a w hf hI
  refine⟨_,_,h,?_⟩
  have hc:cntC es f=es.length:=by
   unfold cntC
   rw[List.filter_eq_self.2 fun e he=>hf e (by have:=qAF.1 hes e he;simpa using this)]
  simp only[I,hc,hf e0 he0l]at hI
  have:=zG7 l (ss.map .y) 0 σ f (fun i hi=>by rw[qAU];exact hf i (by simpa using hi))
  rw[hsv]at this
  rw[this]at hI;exact hI
 ·intro f j o a w hjm hlj hun hcl hdep hI
  obtain⟨s,hsj⟩:∃s,ss[j]?=some s:=⟨_,qAB hjm⟩
  have same:=zI4 (σ:=σ) (ss:=ss) hB hlj hun hcl hdep
  have next:=zI5 (σ:=σ) hB hlj hsj hun hcl
  obtain⟨hgd,hdst,hop⟩:=hat j o s hlj hsj
  rw[qAU]at hop
  have hcl':∀j o,l.toArray[j]?=some o->f j=true->∀e∈o.after,Region.binds .any e=true->f e.on=true:=fun j o ho=>hcl j o (by simpa using ho)
  have hreach:∀e,zD1 l.toArray l.length j e=true->f e=true:=fun e hr=>zB5 hcl' l.length j o (by simpa using hlj) hdep hr
  simp only[I]at hI
  have hdj:f e0=true->(∀t,t∈o.looksAt l.toArray->t∉dead)/\∀t,o.dst=some t->t∉dead:=fun hfe=>by
   have hox:l[e0]?=some (l[e0]'(by omega)):=qAB (by omega)
   refine zP7 hdl hlj (fun h=>by subst h;rw[hun]at hfe;cases hfe) ?_
   cases hr:zD1 l.toArray l.length e0 j with
   |false=>rfl
   |true =>
    exfalso
    have:=zB5 hcl' l.length e0 _ (by simp[hox]) (fun ed he hbn=>hcl e0 _ hox hfe ed he hbn) hr
    rw[hun]at this;cases this
  have same2:∀t,t∈o.looksAt l.toArray->get (kz dead (f e0) (pst σ 0 l ss f)) t=get (pst σ 0 l ss f) t:=fun t ht=>by
   cases hfe:f e0 with
   |false=>rfl
   |true=>exact zLQ ((hdj hfe).1 t ht)
  have nob2:Nat.beq j e0=true->∀t,t∉dead->nob (get (kz dead (f e0) (pst σ 0 l ss f)) t)=true:=fun hj t ht=>by
   rw[zLQ ht];exact hnob f (by rw[<-qAW hj];exact hun) t ht
  have next2:∀t,get (kz dead (f e0||Nat.beq j e0) (pst σ 0 l ss fun i=>i==j||f i)) t=get (kz dead (Nat.beq j e0) (put (kz dead (f e0) (pst σ 0 l ss f)) o.dst s)) t\/get (kz dead (f e0||Nat.beq j e0) (pst σ 0 l ss fun i=>i==j||f i)) t=.top:=fun t=>by
   by_cases ht:t∈dead
   ·cases hb:(f e0||Nat.beq j e0)with
    |true=>exact .inr (zUo ht)
    |false =>
     rw[Bool.or_eq_false_iff]at hb
     rw[hb.1,hb.2]
     exact .inl (next t).symm
   ·refine .inl ?_
    rw[zLQ ht,zLQ ht,<-next t]
    exact(zUf ht).symm
  split at hop
  ·
   rename_i i hi
   have hei:=zKD es j _ hi
   have hE:=hop
   have hcnt:cntC es f=i:=zQC (fun b x hb=>by
    rcases qBI b i with hlt|heq|hgt
    ·rw[hreach x (zGE hch b i x j hlt hb hei).2];exact(decide_eq_true hlt).symm
    ·subst heq;rw[hb]at hei;injection hei with hei;subst hei;rw[hun];simp
    ·have hr:=(zGE hch i b j x hgt hei hb).2
     cases hfx:f x with
     |false=>exact(decide_eq_false (by omega)).symm
     |true =>
      exfalso
      have hxl:∃ox,l[x]?=some ox:=by
       have hxs:x<ss.length:=by have:=qAF.1 hes x (qAE hb);simpa using this
       exact⟨_,qAB (by omega)⟩
      obtain⟨ox,hox⟩:=hxl
      have:=zB5 hcl' l.length x ox (by simpa using hox) (fun e he hbn=>hcl x ox hox hfx e he hbn) hr
      rw[hun]at this;cases this) (by have:=(qAA.1 hei).1;omega)
   rw[hcnt]at hI
   refine .inl ⟨by unfold Region.wanted;rw[hgd],?_⟩
   refine Oper.wp_mono ?_ (hE _ (fun t ht=>(same2 t ht).trans (same t ht)) nob2 _ a w hI)
   rintro a' w' ⟨σ',η'',⟨hle,rfl⟩,hab⟩
   simp only[I,zR3 hnd hei hun,hcnt]
   have hab2:=hab.le hle
   refine hab2.le fun t=>?_
   have hbe:((e0==j)||f e0)=(f e0||Nat.beq j e0):=by rw[Bool.or_comm,zM1]
   rw[hbe]
   exact next2 t
  ·
   rename_i hi
   have hnm:=zKE hi
   have hlow:lowC l es j<=cntC es f:=by unfold lowC;exact zQB (f:=fun e=>zD1 l.toArray l.length j e) fun k _ hk=>hreach k hk
   have hup:cntC es f<=upC l es j:=by
    unfold upC
    refine zQB (f:=f) (g:=fun e=>!zD1 l.toArray l.length e j) fun e he hfe=>?_
    cases hr:zD1 l.toArray l.length e j with
    |false=>rfl
    |true =>
     exfalso
     have hel:e<ss.length:=by have:=qAF.1 hes e he;simpa using this
     have hox:l[e]?=some (l[e]'(by omega)):=qAB (by omega)
     have:=zB5 hcl' l.length e _ (by simp[hox]) (fun ed he hbn=>hcl e _ hox hfe ed he hbn) hr
     rw[hun]at this;cases this
   have hlen:cntC es f<ηs.length:=by
    have:cntC es f<=es.length:=qBS _ _
    omega
   have hη2:ηs[cntC es f]?=some (ηs.getD (cntC es f) []):=by
    rw[qAQ,qAB hlen];rfl
   have hy:Ylds C.P (ηs.getD (cntC es f) []) (kz dead (f e0) (pst σ 0 l ss f)) o s:=hop _ _ hlow hup hη2 _ fun x hx=>by
    cases x with
    |tmp t=>show get _ t=get _ t;rw[same2 t (zBf hx),same t (zBf hx)]
    |_=>rfl
   obtain⟨g,h1⟩:=hI
   refine .inl ⟨by unfold Region.wanted;rw[hgd],?_⟩
   refine hy.wp hdst (fun a' w' hab=>?_) h1
   simp only[I,zR4 hnm]
   have hje:Nat.beq j e0=false:=by
    cases hq:Nat.beq j e0 with
    |false=>rfl
    |true=>exact absurd he0 (by rw[<-qAW hq];exact hnm)
   refine hab.le fun t=>?_
   have hbe:((e0==j)||f e0)=(f e0||Nat.beq j e0):=by rw[Bool.or_comm,zM1]
   rw[hbe]
   have:=next2 t
   rw[hje]at this ⊢
   exact this
 ·refine qAi (qBS _ _) (by simp)
 ·intro j o hj hl
  have hjl:j<l.length:=(qAA.1 hj).1
  rw[qAN,qAL (by simpa using hjl)]at hl
  simp at hl
 ·rw[qAN,qAL (by simpa using hi)]
  simp
 ·have hf0:∀i,i<l.length->(Array.replicate l.toArray.size false).getD i true=false:=fun i hi=>by
   rw[qAN,qAL (by simpa using hi)];simp
  have hc0:cntC es (fun i=>(Array.replicate l.toArray.size false).getD i true)=0:=by
   unfold cntC
   rw[List.filter_eq_nil_iff.2 fun e he=>by rw[hf0 e (by have:=qAF.1 hes e he;simp at this;omega)];simp];rfl
  have hfe:(Array.replicate l.toArray.size false).getD e0 true=false:=hf0 e0 (by omega)
  simp only[I,hc0,hfe]
  obtain⟨g,hd0⟩:=hd0
  rw[h0]
  refine⟨g,{ hd0 with rep:=fun t=>?_ }⟩
  change RepS _ _ _ (get (pst σ 0 l ss fun i=>(Array.replicate l.toArray.size false).getD i true) t)
  rw[zB9 t l ss σ σ 0 _ (fun _=>false) rfl (fun i o hi hne=>?_),zEI]
  ·exact hd0.rep t
  ·rw[qAU,hf0 i (qAA.1 hi).1]at hne
   exact absurd rfl hne
def nobB(id:Nat): SV->Bool
 | .d _=>true
 | .nil=>true
 | .ptr i _=>!Nat.beq i id
 | .buf i _=>!Nat.beq i id
 | .top=>true
 | .rptr _=>true
 |_=>false
theorem zOy{id:Nat}: ∀{s:SV},nobB id s=true->s.kill id=s
 | .d _,_=>rfl
 | .nil,_=>rfl
 | .ptr i o,h=>by
  have:Nat.beq i id=false:=by simpa[nobB]using h
  simp only[SV.kill,this]
 | .buf i n,h=>by
  have:Nat.beq i id=false:=by simpa[nobB]using h
  simp only[SV.kill,this]
 | .top,_=>rfl
 | .rptr _,_=>rfl
 | .bptr _ _ _,h=>by cases h
 | .bsl _ _ _,h=>by cases h
 | .clo _ _,h=>by cases h
 | .mp _,h=>by cases h
 | .pair _ _,h=>by cases h
 | .p _,h=>by cases h
def nobP(id:Nat)(dead:List Nat)(e0:Nat): Nat->List Oper->List SV->Bool
 |k,o::l,s::ss=>(Nat.beq k e0||(match o.dst with
  |some d=>dead.any (Nat.beq d)||nobB id s
  |none=>true))&&nobP id dead e0 (k+1) l ss
 |_,_,_=>true
def nobσ(id:Nat)(dead:List Nat): Sl->Bool
 |[]=>true
 |(k,s)::r=>(dead.any (Nat.beq k)||nobB id s)&&nobσ id dead r
theorem zMM{id:Nat}{dead:List Nat}: ∀{σ:Sl},nobσ id dead σ=true->∀t,t∉dead->nobB id (get σ t)=true
 |[],_,_,_=>rfl
 |(k,s)::r,h,t,ht=>by
  simp only[nobσ,qAP]at h
  rw[zA7]
  split
  ·rename_i e;subst e
   rcases Bool.or_eq_true_iff.1 h.1 with h1|h1
   ·obtain⟨x,hx,hq⟩:=qBH.1 h1
    exact absurd (by rw[qAW hq];exact hx) ht
   ·exact h1
  ·exact zMM h.2 t ht
theorem zOn{id:Nat}{dead:List Nat}{e0:Nat}{f:Nat->Bool}(hf:f e0=false): ∀{l:List Oper} {ss:List SV} {k:Nat} {σ:Sl},nobP id dead e0 k l ss=true->(∀t,t∉dead->nobB id (get σ t)=true)->∀t,t∉dead->nobB id (get (pst σ k l ss f) t)=true
 |[],_,_,_,_,hσ,t,ht=>by unfold pst;exact hσ t ht
 |_::_,[],_,_,_,hσ,t,ht=>by unfold pst;exact hσ t ht
 |o::l,s::ss,k,σ,h,hσ,t,ht=>by
  simp only[nobP,qAP]at h
  unfold pst
  refine zOn hf h.2 (fun u hu=>?_) t ht
  split
  ·rename_i hk
   rcases Bool.or_eq_true_iff.1 h.1 with h1|h1
   ·rw[qAW h1,hf]at hk;cases hk
   ·cases hd:o.dst with
    |none=>exact hσ u hu
    |some d =>
     rw[hd]at h1
     rw[put,zA7]
     split
     ·rename_i e;subst e
      rcases Bool.or_eq_true_iff.1 h1 with h2|h2
      ·obtain⟨x,hx,hq⟩:=qBH.1 h2
       exact absurd (by rw[qAW hq];exact hx) hu
      ·exact h2
     ·exact hσ u hu
  ·exact hσ u hu
theorem zOx{id:Nat}{dead:List Nat}{e0:Nat}{l:List Oper}{ss:List SV}{σ:Sl}(h1:nobσ id dead σ=true)(h2:nobP id dead e0 0 l ss=true)(f:Nat->Bool)(hf:f e0=false)(t:Nat)(ht:t∉dead): nobB id (get (pst σ 0 l ss f) t)=true :=
 zOn hf h2 (zMM h1) t ht
section
variable {C:Ctx}{l r:List Oper}{es:List Nat}{ηs:List (List Ob)}{j:Nat}{s:SV}{ss:List SV}{σ:Sl}{e0:Nat}{dead:List Nat}{nob:SV->Bool}
theorem zMF: segK C l es ηs e0 dead nob j r [] σ:=by cases r <;> trivial
theorem zSX{o:Oper}(hi:idxC es j=none)(hg:o.guard=none)(hd:zEP C.N o.dst)(h:YAll C σ o s ((ηs.take (upC l es j+1)).drop (lowC l es j)))(hr:segK C l es ηs e0 dead nob (j+1) r ss (put σ o.dst s)): segK C l es ηs e0 dead nob j (o::r) (s::ss) σ:=by
 refine⟨⟨hg,hd,?_⟩,hr⟩
 unfold zJw;rw[hi];exact h
theorem zCL{o:Oper}(hi:idxC es j=none)(hg:o.guard=none)(hd:zEP C.N o.dst)(h:∀η,Ylds C.P η σ o s)(hr:segK C l es ηs e0 dead nob (j+1) r ss (put σ o.dst s)): segK C l es ηs e0 dead nob j (o::r) (s::ss) σ:=zSX hi hg hd (zQg h) hr
theorem zMH{o:Oper}{ηi:List Ob}(hi:idxC es j=none)(hg:o.guard=none)(hd:zEP C.N o.dst)(hlo:Nat.beq (lowC l es j) 0=true)(hup:Nat.beq (upC l es j) 0=true)(hη:ηs.take 1=[ηi])(h:Ylds C.P ηi σ o s)(hr:segK C l es ηs e0 dead nob (j+1) r ss (put σ o.dst s)): segK C l es ηs e0 dead nob j (o::r) (s::ss) σ :=
 zSX hi hg hd (by rw[qAW hlo,qAW hup];show YAll C σ o s ((ηs.take 1).drop 0);rw[hη];exact⟨h,trivial⟩) hr
theorem zIO{t x y ty pos after}{id o n:Nat}{kb:Option Nat}{et:Option TypeId}{b0:Bool}{cs vs:List SV}{s0:SV}{ηi:List Ob}(i:Nat)(hi:idxC es j=some i)(hje:Nat.beq j e0=false)(hx:oval σ x=.ptr id o)(hy:oval σ y=s0)(hv:zEx s0=some vs)(ht:zA9 C.P t=some (b0,n))(hηi:ηs.getD i []=ηi)(ho:ηi[id]?=some (.bx kb et cs))(hn:Nat.beq vs.length n=true)(hl:Nat.ble (o+n) cs.length=true)(hro:Nat.ble C.ro id=true)
  (hη:ηs.getD (i+1) []=ηi.set id (.bx kb et (cs.take o++vs++cs.drop (o+n)))) (hr:segK C l es ηs e0 dead nob (j+1) r ss σ):segK C l es ηs e0 dead nob j (⟨none,.store t x y,ty,pos,after,none⟩::r) (s::ss) σ:=by
 refine⟨⟨rfl,trivial,?_⟩,hr⟩
 unfold zJw;rw[hi]
 intro τ hτ _
 have ex:∀z:Operand,z∈(Op.store t x y).operands->oval τ z=oval σ z:=fun z hz=>by
  cases z with
  |tmp u=>exact hτ u (zBf hz)
  |_=>rfl
 rw[hηi,hη,hje]
 refine EStep.of (ops:=l.toArray) (zAl (by rw[ex x (by simp[Op.operands])];exact hx) (by rw[ex y (by simp[Op.operands])];exact hy) hv ht ho hn hl hro (zAD ⟨Le.refl _,rfl⟩))
theorem zMG{t x y ty pos after}{d id n m e sz by':Nat}{mu:Bool}{xs ys:List D}{ηi:List Ob}(i:Nat)(hi:idxC es j=some i)(hje:Nat.beq j e0=true)(hx:oval σ x=.buf id n)(hηi:ηs.getD i []=ηi)(ho:ηi[id]?=some (.buf mu e sz xs))(hy:oval σ y=.d (.slice ys))(hn:n=xs.length)(hm:m=ys.length)
  (he:zBu C.P t=some e) (hs:zBB C.P t=some sz) (hz:zDM C.P e=some sz) (hb:zDG C.P t=some by') (hd:Nat.blt d C.N=true) (hro:Nat.ble C.ro id=true) (hf:∀d∈ys,d.flat.length=sz) (hlen:(n+m)*by'<=140737488355328/\n+m<=140737488355328)
  (hη:ηs.getD (i+1) []=(zD2 id ηi).set id (.buf mu e sz (xs++ys))) (hr:segK C l es ηs e0 dead (nobB id) (j+1) r ss (put σ (some d) (.buf id (n+m)))):segK C l es ηs e0 dead (nobB id) j (⟨some d,.call ⟨.builtin .append, #[x,y], #[t,t]⟩,ty,pos,after,none⟩::r) (.buf id (n+m)::ss) σ:=by
 refine⟨⟨rfl,hd,?_⟩,hr⟩
 unfold zJw;rw[hi]
 intro τ hτ hno
 have ex:∀z:Operand,z∈(Op.call ⟨.builtin .append, #[x,y], #[t,t]⟩).operands->oval τ z=oval σ z:=fun z hz=>by
  cases z with
  |tmp u=>exact hτ u (zBf hz)
  |_=>rfl
 have hno:=hno hje
 rw[hηi,hη,hje]
 refine EStep.of (ops:=l.toArray) (aApp (by rw[ex x (by simp[Op.operands,Call.operands])];exact hx) ho (by rw[ex y (by simp[Op.operands,Call.operands]),hy];exact zAq rfl) hn hm he hs hz hb hd hro hf hlen (zAD ⟨fun u=>?_,rfl⟩))
 by_cases hu:u∈dead
 ·exact .inr (zUo hu)
 ·refine .inl ?_
  rw[zLQ hu,put,zA7,zA7]
  split
  ·rfl
  ·rw[zHC,zOy (hno u hu)]
end
theorem zHi(id:Nat): ∀(a b:List Ob),zD2 id (a++b)=zD2 id a++zD2 id b
 |[],_=>rfl
 |o::a,b=>by rw[qBB,zD2,zD2,zHi id a b,qBB]
theorem zHh(id:Nat): ∀(H:List (Nat×D)),zD2 id (hidL H)=hidL H
 |[]=>rfl
 |p::H=>by
  show Ob.kill id _::zD2 id (hidL H)=_
  rw[zHh id H];rfl
