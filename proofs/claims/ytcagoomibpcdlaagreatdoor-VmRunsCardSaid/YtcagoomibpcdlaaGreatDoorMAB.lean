import Derived.Laws.Sem
import Derived.MapKept
import Derived.Maps.RangeRun
import Derived.Laws.Cover3
import Derived.Deep.AppendSrc
import Derived.Test.YtcagoomibpcdlaaGreatDoorMAA
set_option maxHeartbeats 16000000
namespace Go.Sx
open Go.RowKit Go.Lib
def zAp(P:Program)(f:FuncId)(as:List SV)(pre:List Ob)(res:D): Prop :=
 ∀(g:Gh) (w:World) (vs:List Value),Inv g w pre->RepSs g w vs as->
  Calls P f vs.toArray w (fun e w'=>∃v St',e=.returned v/\RepD St' w' v res/\Below w.heap.size w w'/\Keep g.St w St' w'/\
   (∀b o,St' b o->g.St b o\/w.heap.size<=b)/\(∀b o,St' b o->b<w'.heap.size))
theorem zCq{P:Program}{f:FuncId}{fn:Func}{c:Code}{as:List SV}{pre:List Ob}{res:D}{N:Nat}{rs:Array ResultVar}(hf:P.funcs[f]?=some fn)(hb:fn.body=some c)(hN:fn.ntmps=N)(hrs:fn.results=rs)(hl:Nat.ble as.length N=true)
  (h:∀(w0:World) (St0:Stab),awp ⟨P,N,w0,St0,fun _=>False,pre.length⟩ c (zBY rs res) (zHx as 0) pre):zAp P f as pre res:=by
 intro g w vs hi hrep
 subst hN
 have hl:=qAO hl
 have hlen:=hrep.len
 refine calls_of_wp hf hb (h w g.St _ ?_ _ _ ?_)
 ·intro e σ' η' a' w' hq ⟨g',ha⟩
  have fin:ResOk rs σ' η' res->a'.defers=[]/\∃v,(results fn a'.tmps).run P w' = .ok v w'/\∃v_1 St',Ending.returned v=.returned v_1/\RepD St' w' v_1 res/\Below w.heap.size w w'/\Keep g.St w St' w'/\
   (∀b o,St' b o->g.St b o\/w.heap.size<=b)/\(∀b o,St' b o->b<w'.heap.size):=by
   intro hq
   obtain⟨v,hr,hd⟩:=hq.run (P:=P) hrs ha
   refine⟨ha.defers,v,hr,v,g'.St,rfl,hd,⟨ha.os,ha.tape,ha.output,ha.wsize,fun k hk=>ha.heap k hk (fun h=>h)⟩,ha.keep,fun b o hb=>?_,ha.inv.st⟩
   rcases ha.new b o hb with h1|h1|h1
   ·exact .inl h1
   ·exact .inr h1
   ·exact h1.elim
  cases e <;> first|exact fin hq|exact hq.elim
 ·refine⟨g,rfl,?_,hi,rfl,rfl,rfl,qAP _,fun _ _ _=>rfl,Keep.refl g.St w,fun _ _ h=>.inl h,fun i b hb hr=>?_,?_⟩
  ·simp[hlen];omega
  ·exfalso
   have h1:pre.length<=i:=hr
   have h2:=hi.dead i (by rw[hi.n];exact h1)
   rw[hb]at h2;cases h2
  ·refine zGI vs as 0 _ hrep fun j v hj=>?_
   have hjl:j<vs.length:=(qAA.1 hj).1
   simp only[qAY,qAL]
   rw[qAs (by simpa using hjl)]
   simp[hj]
theorem SArgs.repO{g:Gh}{w:World}{a:Act}{σ:Sl}{ids:List Nat}: ∀(xs:List Operand) (ss:List SV),(∀x∈xs,RepS g w (a.eval x) (oval σ x))->SArgs σ ids xs ss->xs.length=ss.length/\∀(j:Nat) v s,(xs.map a.eval)[j]?=some v->ss[j]?=some s->RepS g w v (s.ren ids)
 |[],[],_,_=>⟨rfl,fun j v s h=>by simp at h⟩
 |x::xs,s::ss,ho,⟨h1,h2⟩=>by
  obtain⟨e1,e2⟩:=SArgs.repO xs ss (fun y hy=>ho y (by simp[hy])) h2
  refine⟨by simp[e1],fun j v s' hv hs=>?_⟩
  match j with
  |0 =>
   simp at hv hs;subst hv;subst hs
   have:=ho x (by simp);rw[h1]at this;exact this
  |j+1=>exact e2 j v s' (by simpa using hv) (by simpa using hs)
 |[],_::_,_,h=>h.elim
 |_::_,[],_,h=>h.elim
theorem zRZ{g:Gh}{w:World}{a:Act}{σ:Sl}{ids cs cids:List Nat}{x:Operand}{f:FuncId}{args:List Operand}{as:List SV}(hx:oval σ x=.clo f cids)(hcs:cs.map (fun j=>ids.getD j 0)=cids)(ho:RepS g w (a.eval x) (oval σ x))(ha:∀y∈args,RepS g w (a.eval y) (oval σ y))(hs:SArgs σ ids args as):
  ∃cv:List Value,a.eval x=.func (.func f) #[] cv.toArray/\(args.map a.eval++cv).length=(as++cs.map fun j=>SV.ptr j 0).length/\∀(j:Nat) v s,(args.map a.eval++cv)[j]?=some v->(as++cs.map fun j=>SV.ptr j 0)[j]?=some s->RepS g w v (s.ren ids):=by
 rw[hx]at ho
 obtain⟨cv,h1,h2,h3⟩:=ho
 obtain⟨e1,e2⟩:=SArgs.repO args as ha hs
 have hl:cs.length=cids.length:=by rw[<-hcs,qAC]
 refine⟨cv,h1,by simp[e1,h2,hl],fun j v s hv hs=>?_⟩
 rcases qAR j args.length with hj|hj
 ·rw[qAI (by simpa using hj)]at hv
  rw[qAI (by omega)]at hs
  exact e2 j v s hv hs
 ·rw[qAJ (by simpa using hj)]at hv
  rw[qAJ (by omega)]at hs
  rw[qAC]at hv
  rw[qAH]at hs
  rw[<-e1]at hs
  cases hc:cs[j-args.length]? with
  |none=>simp[hc]at hs
  |some c =>
   simp[hc]at hs;subst hs
   have hid:cids[j-args.length]?=some (ids.getD c 0):=by rw[<-hcs,qAH,hc];rfl
   exact h3 (j-args.length) _ v hid hv
section
variable {P:Program}{η:List Ob}{σ:Sl}{dst:Option Nat}{ty:TypeId}{pos:String}{after:Array Edge}{gd:Option (Nat×Bool)}{t yt:TypeId}{x y:Operand}
theorem zLD{f:FuncId}{a:Act}{cv:List Value}{args:List Operand}{ts:Array TypeId}{w:World}(hx:a.eval x=.func (.func f) #[] cv.toArray)(hb:zAL P f=true):
  (execOp a.eval ⟨dst,.call ⟨.value x,args.toArray,ts⟩,ty,pos,after,gd⟩).run P w=.ok (.enter f (args.map a.eval++cv).toArray) w:=by
 simp only[execOp,resolve,hx,Deferred.ofValue,invoke,Sem.run_bind,Sem.run_pure,Result.andThen_ok,qBH,Array.empty_append]
 rw[List.append_toArray]
 exact zFN hb
theorem zYY{f:FuncId}{args:List Operand}{ts:Array TypeId}{as:List SV}{pre:List Ob}{res:D}{cids:List Nat}(ids cs:List Nat)(hx:oval σ x=.clo f cids)(hcs:cs.map (fun j=>ids.getD j 0)=cids)(hb:zAL P f=true)(hc:zAp P f (as++cs.map fun j=>SV.ptr j 0) pre res)(ha:SArgs σ ids args as)(hp:Picks η ids pre)
  (hn:ids.Nodup) (hlen:ids.length=pre.length) (hu:zG7 pre=true) (hbl:pre.all (Ob.below pre.length)=true) (hba:(as++cs.map fun j=>SV.ptr j 0).all (SV.bel pre.length)=true) :
  Ylds P η σ ⟨dst,.call ⟨.value x,args.toArray,ts⟩,ty,pos,after,gd⟩ (.d res):=by
 intro g w a hi hop
 obtain⟨cv,e1,e2,e3⟩:=zRZ (g:=g) (w:=w) (a:=a) hx hcs (hop x (by simp[Op.operands,Call.operands])) (fun y hy=>hop y (by simp[Op.operands,Call.operands,hy])) ha
 refine .inr ⟨f,_,zLD e1 hb,?_⟩
 have hr:=RepSs.callee (g:=g) (w:=w) hlen _ _ e3 e2 hba
 refine(hc (zCF g ids) w _ (hi.callee hn hlen hp hu hbl) hr).mono fun e w' ⟨v,St',he,hrep,hbel,hkeep,hnew,hlt⟩=>?_
 exact⟨v,{ g with St:=St' },he,⟨rfl,rfl,rfl,rfl,hbel.os,hbel.tape,hbel.output,hbel.size,hbel.block,hkeep.sub,hnew,hlt⟩,hrep⟩
theorem zAg{f:FuncId}{args:List Operand}{ts:Array TypeId}{asx:List SV}{pre:List Ob}{res:D}{cids:List Nat}(ids cs:List Nat)(hx:oval σ x=.clo f cids)(hcs:cs.map (fun j=>ids.getD j 0)=cids)(hb:zAL P f=true)(hc:zAp P f asx pre res)(hsp:asx.drop args.length=cs.map fun j=>SV.ptr j 0)(ha:SArgs σ ids args (asx.take args.length))(hp:Picks η ids pre)
  (hn:ids.Nodup) (hlen:ids.length=pre.length) (hu:zG7 pre=true) (hbl:pre.all (Ob.below pre.length)=true) (hba:asx.all (SV.bel pre.length)=true) :
  Ylds P η σ ⟨dst,.call ⟨.value x,args.toArray,ts⟩,ty,pos,after,gd⟩ (.d res):=by
 have e:asx=asx.take args.length++cs.map fun j=>SV.ptr j 0:=by rw[<-hsp,qBV]
 exact zYY ids cs hx hcs hb (e▸hc) ha hp hn hlen hu hbl (e▸hba)
theorem qcA{f:FuncId}{args:List Operand}{ts:Array TypeId}{asx:List SV}{pre:List Ob}{res:D}{cids:List Nat}(ids:List Nat)(cs:List Nat)(hb:zAL P f=true)(hc:zAp P f asx pre res)(hx:oval σ x=.clo f cids:=by exact rfl)(hcs:cs.map (fun j=>ids.getD j 0)=cids:=by exact rfl)(hsp:asx.drop args.length=cs.map fun j=>SV.ptr j 0:=by exact rfl)(ha:SArgs σ ids args (asx.take args.length):=by exact SArgs_all rfl)(hp:Picks η ids pre:=by exact rfl)(hn:ids.Nodup:=by decide)(hlen:ids.length=pre.length:=by exact rfl)(hu:zG7 pre=true:=by exact rfl)(hbl:pre.all (Ob.below pre.length)=true:=by exact rfl)(hba:asx.all (SV.bel pre.length)=true:=by exact rfl): Ylds P η σ ⟨dst,.call ⟨.value x,args.toArray,ts⟩,ty,pos,after,gd⟩ (.d res):=zAg ids cs hx hcs hb hc hsp ha hp hn hlen hu hbl hba
theorem zVs{f:FuncId}{args:List Operand}{ts:Array TypeId}{ds:List D}{res:D}(hx:oval σ x=.clo f [])(hb:zAL P f=true)(hc:zAb P f ds res)(ha:CoL η σ args ds):
  Ylds P η σ ⟨dst,.call ⟨.value x,args.toArray,ts⟩,ty,pos,after,gd⟩ (.d res):=by
 intro g w a hi hop
 have hr:=CoL.rep (a:=a) hi args ds (fun y hm=>hop y (by simp[Op.operands,Call.operands,hm])) ha
 have hxr:=hop x (by simp[Op.operands,Call.operands]);rw[hx]at hxr
 obtain⟨cv,h1,h2,_⟩:=hxr
 have:cv=[]:=qAq h2
 subst this
 refine .inr ⟨f,_,zLD h1 hb,?_⟩
 rw[qBC]
 refine(hc g.St w _ hi.st hi.gl hr).mono fun e w' ⟨v,St',he,hrep,hbel,hkeep,hnew,hlt⟩=>?_
 exact⟨v,{ g with St:=St' },he,⟨rfl,rfl,rfl,rfl,hbel.os,hbel.tape,hbel.output,hbel.size,hbel.block,hkeep.sub,hnew,hlt⟩,hrep⟩
end
section
variable {C:Ctx}{ops:Array Oper}{rest:List Oper}{K:Sl->List Ob->Prop}{σ:Sl}{η:List Ob}{d:Nat}{ty:TypeId}{pos:String}{after:Array Edge}{gd:Option (Nat×Bool)}{t:TypeId}{x y:Operand}
theorem zZE{f:FuncId}{args:List Operand}{ts:Array TypeId}{as:List SV}{pre post:List Ob}{res:SV}{cids:List Nat}(ids cs:List Nat)(hx:oval σ x=.clo f cids)(hcs:cs.map (fun j=>ids.getD j 0)=cids)(hb:zAL C.P f=true)(hc:zAW C.P f (as++cs.map fun j=>SV.ptr j 0) pre res post)(ha:SArgs σ ids args as)(hp:Picks η ids pre)(hd:Nat.blt d C.N=true)
  (hn:ids.Nodup) (hlen:ids.length=pre.length) (hu:zG7 pre=true) (hbl:pre.all (Ob.below pre.length)=true) (hba:(as++cs.map fun j=>SV.ptr j 0).all (SV.bel pre.length)=true) (hk:zIu pre post=true) (hro:ids.all (fun i=>Nat.ble C.ro i)=true)
  (h:alex C false ops rest K ((d,res.ren ids)::zEl (zB2 ids pre) ids σ) (zD6 (zFT (zB2 ids pre) ids η) ids (post.map (Ob.ren ids)))) :
  zA2 C false ops ⟨some d,.call ⟨.value x,args.toArray,ts⟩,ty,pos,after,gd⟩ rest K σ η:=by
 intro Q hQ a w ⟨g,hg⟩ K' hK'
 obtain⟨cv,e1,e2,e3⟩:=zRZ (g:=g) (w:=w) (a:=a) hx hcs (hg.eval x) (fun y _=>hg.eval y) ha
 unfold Oper.wp
 rw[zLD e1 hb,Oper.upon_enter]
 have hr:=RepSs.callee (g:=g) (w:=w) hlen _ _ e3 e2 hba
 refine(hc (zCF g ids) w _ (hg.inv.callee hn hlen hp hu hbl) hr).mono fun e w' ⟨v,g',he,hI,hres,hF⟩=>?_
 subst he
 obtain⟨hk1,hk2⟩:=zGe hk
 obtain⟨g2,h1,h2⟩:=hg.called hn hlen hp hk1 hro hI hres hF
 obtain⟨e4,e5⟩:=zMf (ids:=ids) (η:=η) hk2
 rw[e4]at h1;rw[e5]at h2
 exact hK' _ _ (h Q hQ _ w' ⟨g2,h1.put (d:=some d) hd h2⟩)
theorem zQH{f:FuncId}{args:List Operand}{ts:Array TypeId}{asx:List SV}{pre post:List Ob}{res:SV}{cids:List Nat}(ids cs:List Nat)(hx:oval σ x=.clo f cids)(hcs:cs.map (fun j=>ids.getD j 0)=cids)(hb:zAL C.P f=true)(hc:zAW C.P f asx pre res post)(hsp:asx.drop args.length=cs.map fun j=>SV.ptr j 0)(ha:SArgs σ ids args (asx.take args.length))(hp:Picks η ids pre)(hd:Nat.blt d C.N=true)
  (hn:ids.Nodup) (hlen:ids.length=pre.length) (hu:zG7 pre=true) (hbl:pre.all (Ob.below pre.length)=true) (hba:asx.all (SV.bel pre.length)=true) (hk:zIu pre post=true) (hro:ids.all (fun i=>Nat.ble C.ro i)=true)
  (h:alex C false ops rest K ((d,res.ren ids)::zEl (zB2 ids pre) ids σ) (zD6 (zFT (zB2 ids pre) ids η) ids (post.map (Ob.ren ids)))) :
  zA2 C false ops ⟨some d,.call ⟨.value x,args.toArray,ts⟩,ty,pos,after,gd⟩ rest K σ η:=by
 have e:asx=asx.take args.length++cs.map fun j=>SV.ptr j 0:=by rw[<-hsp,qBV]
 exact zZE ids cs hx hcs hb (e▸hc) ha hp hd hn hlen hu hbl (e▸hba) hk hro h
theorem zQE{Q:Exit->Sl->List Ob->Prop}{c:Code}(id j:Nat)(mu:Bool)(e sz:Nat){k:Option Nat}{et:Option TypeId}{cs:List SV}(ho:η[id]?=some (.bx k et cs))(hj:cs[j]?=some (.d (.val (.slice none 0 0))))(hro:Nat.ble C.ro η.length=true)
  (h:awp C c Q σ (η.set id (.bx k et (cs.set j (.buf η.length 0)))++[.buf mu e sz []])):awp C c Q σ η:=by
 intro R hR a w ⟨g,ha⟩
 refine h R hR a w ?_
 have hn:=ha.inv.n
 let g':Gh:={ g with blk:=upd g.blk g.n none,cap:=upd g.cap g.n 0,sz:=upd g.sz g.n sz,n:=g.n+1 }
 have hold:∀id,id<g.n->g'.blk id=g.blk id/\g'.cap id=g.cap id/\g'.sz id=g.sz id:=fun id hid=>by simp[g',upd,Nat.ne_of_lt hid]
 have hab:=ha.newOb (g':=g') (w':=w) (.buf mu e sz []) rfl rfl rfl (qAP _) (fun _ _=>rfl) rfl hold (fun id hid=>by
   have hne:id≠g.n:=by omega
   simp only[g',upd,if_neg hne]
   exact ha.inv.dead id (by omega)) (fun b hb=>by simp[g',upd]at hb) (fun _ _ h=>h) (fun _ _ h=>.inl h) ha.inv.st (by rw[hn];exact qAO hro)
  ⟨by simp[g',upd],by simp,by simp[g',upd],by simp,.inl ⟨by simp[g',upd],by simp[g',upd]⟩⟩
 have hidl:id<η.length:=(qAA.1 ho).1
 refine⟨g',{ hab with inv:={ hab.inv with n:=by simpa using hab.inv.n,ob:=fun i o hi=>?_ } }⟩
 rcases qAR i η.length with hil|hil
 ·rw[qAI (by simpa using hil),qAX]at hi
  split at hi
  ·rename_i hc;subst hc
   try rw[if_pos hidl]at hi
   injection hi with hi;subst hi
   obtain⟨b,e',us,h1,h2,h3,h4,h5,h6,h7⟩:=hab.inv.ob id (.bx k et cs) (by rw[qAI hidl];exact ho)
   refine⟨b,e',us,h1,h2,by simpa using h3,h4,fun m u s hu hs=>?_,h6,h7⟩
   rw[qAX]at hs
   split at hs
   ·rename_i hm;subst hm
    have hjl:=(qAA.1 hj).1
    try rw[if_pos hjl]at hs
    injection hs with hs;subst hs
    have h8:=RepD.val_eq (h5 j u _ hu hj)
    refine⟨by show η.length<g.n+1;omega,?_⟩
    rw[h8,<-hn];simp[g',upd]
   ·exact h5 m u s hu hs
  ·exact hab.inv.ob i o (by rw[qAI hil];exact hi)
 ·rw[qAJ (by simpa using hil)]at hi
  exact hab.inv.ob i o (by rw[qAJ hil];simpa using hi)
end
section
variable {P:Program}{η:List Ob}{σ:Sl}{dst:Option Nat}{ty:TypeId}{pos:String}{after:Array Edge}{gd:Option (Nat×Bool)}{t yt:TypeId}{x y:Operand}
end
end Go.Sx
namespace Go.Sx
section
variable {P:Program}{η:List Ob}{σ:Sl}{dst:Option Nat}{ty:TypeId}{pos:String}{after:Array Edge}{gd:Option (Nat×Bool)}{t:TypeId}
end
open Go.RowKit Go.Lib
section
variable {C:Ctx}{σ:Sl}{η:List Ob}
theorem zGl{Q:Exit->Sl->List Ob->Prop}{c:Code}(id j:Nat)(mu:Bool)(e sz:Nat){k:Option Nat}{et:Option TypeId}{cs:List SV}(ho:η[id]?=some (.bx k et cs))(hj:cs[j]?=some .nil)(hro:Nat.ble C.ro η.length=true)
  (h:awp C c Q σ (η.set id (.bx k et (cs.set j (.buf η.length 0)))++[.buf mu e sz []])):awp C c Q σ η:=by
 intro R hR a w ⟨g,ha⟩
 refine h R hR a w ?_
 have hn:=ha.inv.n
 let g':Gh:={ g with blk:=upd g.blk g.n none,cap:=upd g.cap g.n 0,sz:=upd g.sz g.n sz,n:=g.n+1 }
 have hold:∀id,id<g.n->g'.blk id=g.blk id/\g'.cap id=g.cap id/\g'.sz id=g.sz id:=fun id hid=>by simp[g',upd,Nat.ne_of_lt hid]
 have hab:=ha.newOb (g':=g') (w':=w) (.buf mu e sz []) rfl rfl rfl (qAP _) (fun _ _=>rfl) rfl hold (fun id hid=>by
   have hne:id≠g.n:=by omega
   simp only[g',upd,if_neg hne]
   exact ha.inv.dead id (by omega)) (fun b hb=>by simp[g',upd]at hb) (fun _ _ h=>h) (fun _ _ h=>.inl h) ha.inv.st (by rw[hn];exact qAO hro)
  ⟨by simp[g',upd],by simp,by simp[g',upd],by simp,.inl ⟨by simp[g',upd],by simp[g',upd]⟩⟩
 have hidl:id<η.length:=(qAA.1 ho).1
 refine⟨g',{ hab with inv:={ hab.inv with n:=by simpa using hab.inv.n,ob:=fun i o hi=>?_ } }⟩
 rcases qAR i η.length with hil|hil
 ·rw[qAI (by simpa using hil),qAX]at hi
  split at hi
  ·rename_i hc;subst hc
   try rw[if_pos hidl]at hi
   injection hi with hi;subst hi
   obtain⟨b,e',us,h1,h2,h3,h4,h5,h6,h7⟩:=hab.inv.ob id (.bx k et cs) (by rw[qAI hidl];exact ho)
   refine⟨b,e',us,h1,h2,by simpa using h3,h4,fun m u s hu hs=>?_,h6,h7⟩
   rw[qAX]at hs
   split at hs
   ·rename_i hm;subst hm
    have hjl:=(qAA.1 hj).1
    try rw[if_pos hjl]at hs
    injection hs with hs;subst hs
    have h8:u=.slice none 0 0:=h5 j u _ hu hj
    refine⟨by show η.length<g.n+1;omega,?_⟩
    rw[h8,<-hn];simp[g',upd]
   ·exact h5 m u s hu hs
  ·exact hab.inv.ob i o (by rw[qAI hil];exact hi)
 ·rw[qAJ (by simpa using hil)]at hi
  exact hab.inv.ob i o (by rw[qAJ hil];simpa using hi)
end
def zOB(tmps:Array Value): ResultVar->Sem Value
 | .tmp t=>pure (tmps.getD t undef)
 | .cell a t=>do loadVar t (<-asAddr (tmps.getD a undef))
theorem zQ8{P:Program}{w:World}{tmps:Array Value}: ∀(l:List ResultVar) (vs:List Value),l.length=vs.length->(∀(j:Nat) r v,l[j]?=some r->vs[j]?=some v->(zOB tmps r).run P w=.ok v w)->(l.mapM (zOB tmps)).run P w=.ok vs w
 |[],[],_,_=>rfl
 |r::l,v::vs,hl,h=>by
  have h0:=h 0 r v rfl rfl
  have ih:=zQ8 l vs (by simpa using hl) (fun j r v h1 h2=>h (j+1) r v (by simpa using h1) (by simpa using h2))
  rw[List.mapM_cons]
  simp only[Sem.run_bind,h0,Result.andThen_ok,ih,Sem.run_pure]
 |[],_::_,hl,_=>by simp at hl
 |_::_,[],hl,_=>by simp at hl
def tupV: List Value->Value
 |[v]=>v
 |vs=>.tuple vs.toArray
theorem zJ8{P:Program}{w:World}{fn:Func}{tmps:Array Value}{l:List ResultVar}{vs:List Value}(hrs:fn.results=l.toArray)(hl:l.length=vs.length)(h:∀(j:Nat) r v,l[j]?=some r->vs[j]?=some v->(zOB tmps r).run P w=.ok v w): (results fn tmps).run P w=.ok (tupV vs) w:=by
 have h1:=zQ8 l vs hl h
 have e:results fn tmps=(do let vs <-fn.results.mapM (zOB tmps);pure (if h:vs.size=1 then vs[0]else .tuple vs)):=by
  unfold results;congr 2
 rw[e,hrs,Array.mapM_eq_mapM_toList]
 simp only[Sem.run_bind,Sem.run_map,h1,Sem.run_pure,Result.andThen_ok]
 match vs with
 |[]=>rfl
 |[v]=>rfl
 |v::u::r=>simp[tupV]
def CoV(η:List Ob): List SV->List D->Prop
 |[],[]=>True
 |s::ss,d::ds=>Co η s d/\CoV η ss ds
 |_,_=>False
theorem CoV.len{η:List Ob}: ∀{ss:List SV} {ds:List D},CoV η ss ds->ss.length=ds.length
 |[],[],_=>rfl
 |_::_,_::_,h=>by simp[CoV.len h.2]
 |[],_::_,h=>h.elim
 |_::_,[],h=>h.elim
theorem CoV.get{η:List Ob}: ∀{ss:List SV} {ds:List D},CoV η ss ds->∀(j:Nat) s d,ss[j]?=some s->ds[j]?=some d->Co η s d
 |s::ss,d::ds,h,0,s',d',h1,h2=>by simp at h1 h2;subst h1;subst h2;exact h.1
 |s::ss,d::ds,h,j+1,s',d',h1,h2=>CoV.get h.2 j s' d' (by simpa using h1) (by simpa using h2)
 |[],[],_,j,_,_,h1,_=>by simp at h1
 |[],_::_,h,_,_,_,_,_=>h.elim
 |_::_,[],h,_,_,_,_,_=>h.elim
theorem zZR{η:List Ob}: ∀{ss:List SV} {ds:List D},toDs ss=some ds->CoV η ss ds
 |[],ds,h=>by simp[toDs]at h;subst h;trivial
 |s::r,ds,h=>by
  cases s <;> simp only[toDs]at h
  all_goals first
   |(cases h;done)
   |(cases h2:toDs r with
     |none=>rw[h2]at h;cases h
     |some ds'=>rw[h2]at h;cases h;exact⟨by first|exact rfl|exact .inl rfl,zZR h2⟩)
def RVal(P:Program)(σ:Sl)(η:List Ob): ResultVar->D->Prop
 | .tmp r,d=>Co η (get σ r) d
 | .cell a t,d=>∃id o n kb et cs,get σ a=.ptr id o/\η[id]?=some (.bx kb et cs)/\
   ((zBD P t=some (true,n)/\o+n<=cs.length/\∃ds,CoV η ((cs.drop o).take n) ds/\d=.agg ds)\/(zBD P t=some (false,n)/\∃s,cs[o]?=some s/\Co η s d))
def RVals(P:Program)(σ:Sl)(η:List Ob): List ResultVar->List D->Prop
 |[],[]=>True
 |r::rs,d::ds=>RVal P σ η r d/\RVals P σ η rs ds
 |_,_=>False
def ResC(P:Program)(rs:Array ResultVar)(σ:Sl)(η:List Ob)(res:D): Prop :=
 match rs.toList,res with
 |[r],d=>RVal P σ η r d
 |l,.tup ds=>RVals P σ η l ds
 |_,_=>False
def zA8(P:Program)(rs:Array ResultVar)(res:D): Exit->Sl->List Ob->Prop
 | .ret,σ,η=>ResC P rs σ η res
 | .normal,σ,η=>ResC P rs σ η res
 |_,_,_=>False
theorem zAX{P:Program}{rs:Array ResultVar}{res:D}{σ:Sl}{η:List Ob}(h:ResC P rs σ η res): zA8 P rs res .ret σ η:=h
section
variable {P:Program}{σ:Sl}{η:List Ob}
theorem zBu{r1 r2:ResultVar}{rs:List ResultVar}{ds:List D}(h:RVals P σ η (r1::r2::rs) ds): ResC P (r1::r2::rs).toArray σ η (.tup ds):=h
theorem zAu{r:ResultVar}{d:D}(h:RVals P σ η [r] [d]): ResC P [r].toArray σ η d:=h.1
theorem zA5: RVals P σ η [] []:=trivial
theorem RV_d{r:Nat}{d d':D}{rs:List ResultVar}{ds:List D}(h:get σ r=.d d')(h2:RVals P σ η rs ds)(e:d'=d): RVals P σ η (.tmp r::rs) (d::ds):=by
 subst e;exact⟨by show Co η (get σ r) _;rw[h];rfl,h2⟩
theorem RV_n{r:Nat}{rs:List ResultVar}{ds:List D}{d:D}(h:get σ r=.nil)(h2:RVals P σ η rs ds)(e:D.slice []=d): RVals P σ η (.tmp r::rs) (d::ds):=by
 subst e;exact⟨by show Co η (get σ r) _;rw[h];exact .inl rfl,h2⟩
theorem RV_b{r:Nat}{rs:List ResultVar}{ds:List D}{d:D}{id n e sz:Nat}{xs:List D}(h:get σ r=.buf id n)(ho:η[id]?=some (.buf false e sz xs))(hn:n=xs.length)(h2:RVals P σ η rs ds)(he:D.slice xs=d): RVals P σ η (.tmp r::rs) (d::ds):=by
 subst he;exact⟨by show Co η (get σ r) _;rw[h];exact zDr ho hn,h2⟩
theorem RV_c{a t id o n:Nat}{kb:Option Nat}{et:Option TypeId}{cs:List SV}{ds':List D}{d:D}{rs:List ResultVar}{ds:List D}(h:get σ a=.ptr id o)(ho:η[id]?=some (.bx kb et cs))(ht:zBD P t=some (true,n))(hl:Nat.ble (o+n) cs.length=true)(hs:toDs ((cs.drop o).take n)=some ds')(h2:RVals P σ η rs ds)(e:D.agg ds'=d): RVals P σ η (.cell a t::rs) (d::ds):=by
 subst e;exact⟨⟨id,o,n,kb,et,cs,h,ho,.inl ⟨ht,qAO hl,ds',zZR hs,rfl⟩⟩,h2⟩
end
theorem RVal.run{P:Program}{r:ResultVar}{σ:Sl}{η:List Ob}{d:D}{g:Gh}{w:World}{a:Act}{C:Ctx}(h:RVal P σ η r d)(ha:AbsG C g σ η a w): ∃v,(zOB a.tmps r).run P w=.ok v w/\RepD g.St w v d:=by
 cases r with
 |tmp r=>exact⟨_,rfl,Co.rep ha.inv (ha.rep r) h⟩
 |cell r t =>
  obtain⟨id,o,n,kb,et,cs,h0,ho,h⟩:=h
  have h1:=ha.rep r;rw[h0]at h1
  obtain⟨hid,b,hb,hv⟩:=h1
  obtain⟨b',e,us,h2,h3,h4,h5,h6,h7,_⟩:=ha.inv.ob id _ ho
  rw[hb]at h2;injection h2 with h2;subst h2
  rcases h with⟨ht,hl,ds,hs,rfl⟩|⟨ht,s,hs,hc⟩
  ·have hrun:=run_loadCells_list (P:=P) w ⟨b,o,none⟩ ((us.toList.drop o).take n) (fun j v hj=>by
    rw[qAS]at hj
    split at hj
    ·rw[Addr.add_lit,cell_of_row w b _ us e (0,0) h3]
     simpa using hj
    ·cases hj)
   have hlen:((us.toList.drop o).take n).length=n:=by rw[qAG,qAd,qAT];omega
   rw[hlen]at hrun
   have e1:=hs.len
   have hcl:((cs.drop o).take n).length=n:=by rw[qAG,qAd];omega
   refine⟨.agg ((us.toList.drop o).take n).toArray,?_,.agg _ _ (by omega) (fun u hm=>h5 u (Array.mem_toList_iff.1 (qAo (qAW hm)))) (fun j u d hj hd=>?_)⟩
   ·simp only[zOB,hv,asAddr,loadVar,Sem.run_bind,Sem.run_pure,Result.andThen_ok,(zB8 ht w).1,(zB8 ht w).2,if_true,hrun]
   ·have hjl:j<n:=by
     have:=(qAA.1 hj).1;omega
    have hsj:((cs.drop o).take n)[j]?=some (((cs.drop o).take n)[j]'(by omega)):=qAB (by omega)
    refine Co.rep ha.inv (h6 (o+j) u _ ?_ ?_) (hs.get j _ d hsj hd)
    ·rw[qAS,if_pos hjl]at hj;simpa using hj
    ·rw[<-hsj,qAS,if_pos hjl];simp
  ·have hlt:o<us.size:=by rw[h4];exact(qAA.1 hs).1
   refine⟨us[o],?_,Co.rep ha.inv (h6 o _ _ (qAK hlt) hs) hc⟩
   have hcell:w.cell? ⟨b,o,none⟩=some us[o]:=by rw[cell_of_row w b o us e (0,0) h3];exact qAK hlt
   simp[zOB,hv,asAddr,loadVar,(zB8 ht w).1,hcell]
theorem RVals.run{P:Program}{σ:Sl}{η:List Ob}{g:Gh}{w:World}{a:Act}{C:Ctx}(ha:AbsG C g σ η a w): ∀{rs:List ResultVar} {ds:List D},RVals P σ η rs ds->∃vs:List Value,rs.length=vs.length/\vs.length=ds.length/\(∀(j:Nat) r v,rs[j]?=some r->vs[j]?=some v->(zOB a.tmps r).run P w=.ok v w)/\∀(j:Nat) v d,vs[j]?=some v->ds[j]?=some d->RepD g.St w v d
 |[],[],_=>⟨[],rfl,rfl,fun j r v h=>by simp at h,fun j v d h=>by simp at h⟩
 |r::rs,d::ds,h=>by
  obtain⟨v,h1,h2⟩:=h.1.run ha
  obtain⟨vs,e1,e2,e3,e4⟩:=RVals.run ha h.2
  refine⟨v::vs,by simp[e1],by simp[e2],fun j r' v' hr hv=>?_,fun j v' d' hv hd=>?_⟩
  ·cases j with
   |zero=>simp at hr hv;subst hr;subst hv;exact h1
   |succ j=>exact e3 j r' v' (by simpa using hr) (by simpa using hv)
  ·cases j with
   |zero=>simp at hv hd;subst hv;subst hd;exact h2
   |succ j=>exact e4 j v' d' (by simpa using hv) (by simpa using hd)
 |[],_::_,h=>h.elim
 |_::_,[],h=>h.elim
theorem ResC.run{rs:Array ResultVar}{σ:Sl}{η:List Ob}{res:D}{P:Program}{fn:Func}{g:Gh}{w:World}{a:Act}{C:Ctx}(hrs:fn.results=rs)(h:ResC P rs σ η res)(ha:AbsG C g σ η a w): ∃v,(results fn a.tmps).run P w=.ok v w/\RepD g.St w v res:=by
 obtain⟨rl⟩:=rs
 unfold ResC at h
 split at h
 ·rename_i r hr
  simp at hr;subst hr
  obtain⟨v,h1,h2⟩:=h.run ha
  refine⟨v,zJ8 (l:=[r]) (vs:=[v]) hrs rfl (fun j r' v' hr hv=>?_),h2⟩
  cases j with
  |zero=>simp at hr hv;subst hr;subst hv;exact h1
  |succ j=>simp at hr
 ·rename_i ds hne
  obtain⟨vs,e1,e2,e3,e4⟩:=RVals.run ha h
  refine⟨tupV vs,zJ8 hrs e1 e3,?_⟩
  have e5:tupV vs=.tuple vs.toArray:=by
   match vs,rl with
   |[],_=>rfl
   |[v],[r]=>exact absurd rfl (hne r)
   |[v],[]=>simp at e1
   |[v],_::_::_=>simp at e1
   |v::u::r,_=>rfl
  rw[e5];exact .tup vs ds e2 e4
 ·exact h.elim
theorem zB0{P:Program}{f:FuncId}{fn:Func}{c:Code}{ds:List D}{res:D}{N:Nat}{rs:Array ResultVar}(hf:P.funcs[f]?=some fn)(hb:fn.body=some c)(hN:fn.ntmps=N)(hrs:fn.results=rs)(hl:Nat.ble ds.length N=true)
  (h:∀(w0:World) (St0:Stab),awp ⟨P,N,w0,St0,fun _=>False,0⟩ c (zA8 P rs res) (zPC ds 0) []):zAb P f ds res:=by
 intro St w vs hst hgl hrep
 subst hN
 have hl:=qAO hl
 have hlen:=hrep.len
 refine calls_of_wp hf hb (h w St _ ?_ _ _ ?_)
 ·intro e σ' η' a' w' hq ⟨g,ha⟩
  have fin:ResC P rs σ' η' res->a'.defers=[]/\∃v,(results fn a'.tmps).run P w' = .ok v w'/\∃v_1 St',Ending.returned v=.returned v_1/\RepD St' w' v_1 res/\Below w.heap.size w w'/\Keep St w St' w'/\
   (∀b o,St' b o->St b o\/w.heap.size<=b)/\(∀b o,St' b o->b<w'.heap.size):=by
   intro hq
   obtain⟨v,hr,hd⟩:=hq.run (P:=P) hrs ha
   refine⟨ha.defers,v,hr,v,g.St,rfl,hd,⟨ha.os,ha.tape,ha.output,ha.wsize,fun k hk=>ha.heap k hk (fun h=>h)⟩,ha.keep,fun b o hb=>?_,ha.inv.st⟩
   rcases ha.new b o hb with h1|h1|h1
   ·exact .inl h1
   ·exact .inr h1
   ·exact h1.elim
  cases e <;> first|exact fin hq|exact hq.elim
 ·refine⟨⟨St,fun _=>none,fun _=>0,fun _=>0,0⟩,rfl,?_,⟨rfl,fun _ _ h=>by simp at h,fun _ _=>rfl,fun _ _ _ h=>by simp at h,fun _ _ h=>by simp at h,hst,hgl⟩,rfl,rfl,rfl,qAP _,fun _ _ _=>rfl,Keep.refl St w,fun _ _ h=>.inl h,fun _ _ h=>by simp at h,?_⟩
  ·simp[hlen];omega
  ·refine zLu vs ds 0 _ hrep fun j v hj=>?_
   have hjl:j<vs.length:=(qAA.1 hj).1
   simp only[qAY,qAL]
   rw[qAs (by simpa using hjl)]
   simp[hj]
theorem zJL{P:Program}{f:FuncId}{fn:Func}{c:Code}{as:List SV}{pre:List Ob}{res:D}{N:Nat}{rs:Array ResultVar}(hf:P.funcs[f]?=some fn)(hb:fn.body=some c)(hN:fn.ntmps=N)(hrs:fn.results=rs)(hl:Nat.ble as.length N=true)
  (h:∀(w0:World) (St0:Stab),awp ⟨P,N,w0,St0,fun _=>False,pre.length⟩ c (zA8 P rs res) (zHx as 0) pre):zAp P f as pre res:=by
 intro g w vs hi hrep
 subst hN
 have hl:=qAO hl
 have hlen:=hrep.len
 refine calls_of_wp hf hb (h w g.St _ ?_ _ _ ?_)
 ·intro e σ' η' a' w' hq ⟨g',ha⟩
  have fin:ResC P rs σ' η' res->a'.defers=[]/\∃v,(results fn a'.tmps).run P w' = .ok v w'/\∃v_1 St',Ending.returned v=.returned v_1/\RepD St' w' v_1 res/\Below w.heap.size w w'/\Keep g.St w St' w'/\
   (∀b o,St' b o->g.St b o\/w.heap.size<=b)/\(∀b o,St' b o->b<w'.heap.size):=by
   intro hq
   obtain⟨v,hr,hd⟩:=hq.run (P:=P) hrs ha
   refine⟨ha.defers,v,hr,v,g'.St,rfl,hd,⟨ha.os,ha.tape,ha.output,ha.wsize,fun k hk=>ha.heap k hk (fun h=>h)⟩,ha.keep,fun b o hb=>?_,ha.inv.st⟩
   rcases ha.new b o hb with h1|h1|h1
   ·exact .inl h1
   ·exact .inr h1
   ·exact h1.elim
  cases e <;> first|exact fin hq|exact hq.elim
 ·refine⟨g,rfl,?_,hi,rfl,rfl,rfl,qAP _,fun _ _ _=>rfl,Keep.refl g.St w,fun _ _ h=>.inl h,fun i b hb hr=>?_,?_⟩
  ·simp[hlen];omega
  ·exfalso
   have h1:pre.length<=i:=hr
   have h2:=hi.dead i (by rw[hi.n];exact h1)
   rw[hb]at h2;cases h2
  ·refine zGI vs as 0 _ hrep fun j v hj=>?_
   have hjl:j<vs.length:=(qAA.1 hj).1
   simp only[qAY,qAL]
   rw[qAs (by simpa using hjl)]
   simp[hj]
section
variable {C:Ctx}{ops:Array Oper}{rest:List Oper}{K:Sl->List Ob->Prop}{σ:Sl}{η:List Ob}
theorem zQG(id:Nat){mu:Bool}{e sz:Nat}{xs:List D}(ho:η[id]?=some (.buf mu e sz xs))(_hmu:mu=true)(hro:Nat.ble C.ro id=true)(h:alex C false ops rest K σ (η.set id (.buf false e sz xs))): alex C false ops rest K σ η:=by
 intro Q hQ a w ⟨g,ha⟩
 refine h Q hQ a w ?_
 have hidl:id<η.length:=(qAA.1 ho).1
 have hro:=qAO hro
 obtain⟨o1,o2,o3,o4,o5⟩:=ha.inv.ob id _ ho
 let g':Gh:={ g with St:=fun b o=>g.St b o\/(g.blk id=some b/\o<xs.length*sz) }
 have kp:Keep g.St w g'.St w:=⟨fun _ _ h=>.inl h,fun _ _ _ _ h=>h,fun _ _=>rfl⟩
 have re:∀{v:Value} {s:SV},RepS g w v s->RepS g' w v s:=fun r=>r.ext kp (fun _ _=>⟨rfl,rfl,rfl⟩) (qAP _)
 have lt:∀b o,g'.St b o->b<w.heap.size:=fun b o hb=>by
  rcases hb with hb|⟨hb,_⟩
  ·exact ha.inv.st b o hb
  ·exact ha.inv.lt id b hb
 refine⟨g',ha.defers,ha.size,⟨by rw[qAZ];exact ha.inv.n,ha.inv.lt,ha.inv.dead,ha.inv.inj,fun i o hi=>?_,lt,ha.inv.gl.keep kp⟩,ha.os,ha.tape,ha.output,ha.wsize,ha.heap,ha.keep.trans kp,fun b o hb=>?_,ha.own,fun t=>re (ha.rep t)⟩
 ·rw[qAX]at hi
  split at hi
  ·rename_i e;subst e
   try rw[if_pos hidl]at hi
   injection hi with hi;subst hi
   refine⟨o1,o2,o3,o4,?_⟩
   rcases o5 with o5|⟨b,us,h1,h2,h3,h4,h5,h6⟩
   ·exact .inl o5
   ·refine .inr ⟨b,us,h1,h2,h3,h4,fun j u d hu hd=>(h5 j u d hu hd).keep kp,fun o=>⟨fun hb=>?_,fun hb=>.inr ⟨h1,hb.2⟩⟩⟩
    rcases hb with hb|⟨_,hb⟩
    ·exact⟨rfl,((h6 o).1 hb).2⟩
    ·exact⟨rfl,hb⟩
  ·rename_i e
   refine(ha.inv.ob i o hi).ext kp (fun _ _=>⟨rfl,rfl,rfl⟩) (qAP _) (by rw[ha.inv.n];exact(qAA.1 hi).1) (fun b hb=>⟨rfl,fun o=>⟨fun ho=>?_,fun h=>.inl h⟩⟩)
   rcases ho with ho|⟨ho,_⟩
   ·exact ho
   ·exact absurd (ha.inv.inj i id b hb ho) (fun h=>e h.symm)
 ·rcases hb with hb|⟨hb,_⟩
  ·exact ha.new b o hb
  ·exact(ha.own id b hb hro).elim (fun h=>.inr (.inl h)) (fun h=>.inr (.inr h))
theorem zHG(id:Nat){e sz:Nat}(ho:η[id]?=some (.buf false e sz []))(h:alex C false ops rest K σ (η.set id (.buf true e sz []))): alex C false ops rest K σ η:=by
 intro Q hQ a w ⟨g,ha⟩
 refine h Q hQ a w ⟨g,{ ha with inv:={ ha.inv with n:=by rw[qAZ];exact ha.inv.n,ob:=fun i o hi=>?_ } }⟩
 rw[qAX]at hi
 split at hi
 ·rename_i hc;subst hc
  split at hi
  ·injection hi with hi;subst hi
   obtain⟨h1,h2,h3,h4,h5⟩:=ha.inv.ob id _ ho
   refine⟨h1,h2,h3,h4,h5.imp (fun h=>h) ?_⟩
   rintro⟨b,us,g1,g2,g3,g4,g5,g6⟩
   exact⟨b,us,g1,g2,g3,g4,g5,fun o=>by rw[g6];simp⟩
  ·cases hi
 ·exact ha.inv.ob i o hi
end
end Go.Sx
namespace Go.Sx
open Go.RowKit
section
variable {κ:Type}[DecidableEq κ]
def zH3: List (κ×D)->κ->Option D
 |[],_=>none
 |(k,d)::r,a=>if k=a then some d else zH3 r a
def putK: List (κ×D)->κ->D->List (κ×D)
 |[],a,d=>[(a,d)]
 |(k,e)::r,a,d=>if k=a then(k,d)::r else(k,e)::putK r a d
def idxK: List (κ×D)->κ->Nat
 |[],_=>0
 |(k,_)::r,a=>if k=a then 0 else idxK r a+1
def kvs(enc:κ->Value)(L:List (κ×D)): List (Value×D):=L.map fun p=>(enc p.1,p.2)
omit [DecidableEq κ] in
theorem zPt{enc:κ->Value}{L:List (κ×D)}: (kvs enc L).length=L.length:=by simp[kvs]
omit [DecidableEq κ] in
theorem zPu{enc:κ->Value}{L:List (κ×D)}{j:Nat}: (kvs enc L)[j]?=(L[j]?).map fun p=>(enc p.1,p.2):=by simp[kvs]
theorem zJy: ∀{L:List (κ×D)} {a:κ} {d:D},zH3 L a=some d->L[idxK L a]?=some (a,d)/\∀e,putK L a e=L.set (idxK L a) (a,e)
 |[],_,_,h=>by cases h
 |(k,e)::r,a,d,h=>by
  unfold zH3 at h
  unfold idxK
  split at h
  ·rename_i hk
   injection h with h;subst h;subst hk
   exact⟨by simp,fun e'=>by simp[putK]⟩
  ·rename_i hk
   obtain⟨h1,h2⟩:=zJy h
   exact⟨by simp[hk,h1],fun e'=>by simp[putK,hk,h2]⟩
theorem zMS: ∀{L:List (κ×D)} {a:κ},zH3 L a=none->(∀p∈L,p.1≠a)/\(∀e,putK L a e=L++[(a,e)])/\idxK L a=L.length
 |[],_,_=>⟨by simp,fun e=>rfl,rfl⟩
 |(k,e)::r,a,h=>by
  unfold zH3 at h
  split at h
  ·cases h
  ·rename_i hk
   obtain⟨h1,h2,h3⟩:=zMS h
   exact⟨fun p hp=>by rcases qBL.1 hp with rfl|hp;exact hk;exact h1 p hp,fun e'=>by simp[putK,hk,h2],by simp[idxK,hk,h3]⟩
structure KeyOk(P:Program)(K:TypeId)(enc:κ->Value): Prop where
 ex:∃kind,P.underlying K=some kind/\(∀a,MapKept.IsKey kind (enc a))/\(∀a b,Instr.sameNow kind (enc a) (enc b)=some (decide (a=b)))/\∀a,Instr.sameBits 10000 (enc a) (enc a)=true
theorem zLg{kind:TypeDesc}{enc:κ->Value}(hs:∀a b,Instr.sameNow kind (enc a) (enc b)=some (decide (a=b)))(a:κ): ∀(es:List MapEntry) (L:List (κ×D)) (i:Nat),es.length=L.length->
  (∀(j:Nat) e p,es[j]?=some e->L[j]?=some p->e.key=enc p.1)->
  (zH3 L a=none/\Instr.findNow kind (enc a) es i=some none)\/∃e d,es[idxK L a]?=some e/\zH3 L a=some d/\Instr.findNow kind (enc a) es i=some (some (i+idxK L a,e.val))
 |[],[],i,_,_=>.inl ⟨rfl,rfl⟩
 |e::es,(k,d)::L,i,hl,h=>by
  have hk:=h 0 e (k,d) rfl rfl
  have h1:=hs a k
  simp only at hk
  unfold Instr.findNow
  rw[hk,h1]
  by_cases hc:k=a
  ·subst hc
   exact .inr ⟨e,d,by simp[idxK],by simp[zH3],by simp[idxK]⟩
  ·have hc':¬a=k:=fun e=>hc e.symm
   simp only[hc',decide_false]
   rcases zLg hs a es L (i+1) (by simpa using hl) (fun j e p he hp=>h (j+1) e p (by simpa using he) (by simpa using hp))with⟨h2,h3⟩|⟨e2,d2,h2,h3,h4⟩
   ·exact .inl ⟨by simp[zH3,hc,h2],h3⟩
   ·exact .inr ⟨e2,d2,by simp[idxK,hc,h2],by simp[zH3,hc,h3],by rw[h4];simp[idxK,hc];omega⟩
 |[],_::_,_,hl,_=>by simp at hl
 |_::_,[],_,hl,_=>by simp at hl
end
theorem zY0{P:Program}{K:TypeId}{q:IntKind}(h:P.underlying K=some (.int q)): KeyOk P K (fun a:Int=>Value.int q a) :=
 ⟨_,h,fun _=>rfl,fun a b=>by simp only[Instr.sameNow,if_true];rfl,fun a=>by simp[Instr.sameBits]⟩
def zPr(P:Program)(t:TypeId): Option (TypeId×TypeId) :=
 match P.underlying t with
 |some (.map k e)=>some (k,e)
 |_=>none
theorem zIR{P:Program}{t k e:TypeId}(h:zPr P t=some (k,e)): P.underlying t=some (.map k e):=by
 unfold zPr at h
 split at h
 ·rename_i hu;simp only[qBu,Prod.mk.injEq]at h;rw[hu,h.1,h.2]
 ·cases h
def zRy(P:Program)(e:TypeId): Option D :=
 match P.info? e with
 |some i=>match i.zero with
  |some z=>match z.oneCell' with
   |true=>some (zdv z)
   |false=>none
  |none=>none
 |none=>none
theorem zS9{P:Program}{e:TypeId}{zd:D}(h:zRy P e=some zd): ∃z,(∀w,(zeroValue e).run P w=.ok z w)/\∀St w,RepD St w z zd:=by
 unfold zRy at h
 split at h
 ·rename_i i hi
  split at h
  ·rename_i z hz
   split at h
   ·injection h with h;subst h
    exact⟨z,fun w=>by simp[zeroValue,typeInfo,hi,hz],fun St w=>zMh St w z⟩
   ·cases h
  ·cases h
 ·cases h
section
variable {P:Program}{η:List Ob}{σ:Sl}{dst:Option Nat}{ty:TypeId}{pos:String}{after:Array Edge}{gd:Option (Nat×Bool)}{t:TypeId}{x y:Operand}{κ:Type}[DecidableEq κ]{enc:κ->Value}
theorem zZL{a b:SV}(hx:oval σ x=.pair a b): Ylds P η σ ⟨dst,.extract x 0,ty,pos,after,gd⟩ a:=by
 refine Ylds.same fun g w ac hi h=>?_
 have h1:=h x (by simp[Op.operands]);rw[hx]at h1
 obtain⟨u1,u2,hv,h2,h3⟩:=h1
 exact⟨u1,by simp[execOp,hv,Instr.extract],h2⟩
theorem zZK{a b:SV}(hx:oval σ x=.pair a b): Ylds P η σ ⟨dst,.extract x 1,ty,pos,after,gd⟩ b:=by
 refine Ylds.same fun g w ac hi h=>?_
 have h1:=h x (by simp[Op.operands]);rw[hx]at h1
 obtain⟨u1,u2,hv,h2,h3⟩:=h1
 exact⟨u2,by simp[execOp,hv,Instr.extract],h3⟩
theorem zXX{g:Gh}{w:World}{id:Nat}{kb:Option Nat}{l:List (Value×D)}: ObOk g w id (.map kb l)↔∃b es,g.blk id=some b/\w.heap[b]?=some (.map es l.length)/\es.size=l.length/\
  (∀(j:Nat) (e:MapEntry) (p:Value×D),es[j]?=some e->l[j]?=some p->e.born=j/\e.key=p.1/\RepD g.St w e.val p.2)/\(∀o,¬g.St b o)/\∀c,kb=some c->c=b:=by
 constructor
 ·rintro⟨b,es,ck,h1,h2,h3,h4,h5,h6,h7⟩
  obtain⟨rfl,h8⟩:=h7 rfl
  exact⟨b,es,h1,h2,h3,fun j e p he hp=>⟨h8 j e he,h4 j e p he hp⟩,h5,h6⟩
 ·rintro⟨b,es,h1,h2,h3,h4,h5,h6⟩
  refine⟨b,es,_,h1,h2,h3,fun j e p he hp=>(h4 j e p he hp).2,h5,h6,fun _=>⟨rfl,fun j e he=>?_⟩⟩
  have hj:j<l.length:=by rw[<-h3];exact(qAt.1 he).1
  exact(h4 j e _ he (qAB hj)).1
omit [DecidableEq κ] in
theorem zYw{g:Gh}{w:World}{id:Nat}{kb:Option Nat}{L:List (κ×D)}(h:ObOk g w id (.map kb (kvs enc L))): ∃b es,g.blk id=some b/\w.heap[b]?=some (.map es L.length)/\es.toList.length=L.length/\
  (∀(j:Nat) e p,es.toList[j]?=some e->L[j]?=some p->e.key=enc p.1)/\(∀(j:Nat) e p,es.toList[j]?=some e->L[j]?=some p->e.born=j/\RepD g.St w e.val p.2)/\∀o,¬g.St b o:=by
 obtain⟨b,es,h1,h2,h3,h4,h5,_⟩:=zXX.1 h
 rw[zPt]at h2 h3
 refine⟨b,es,h1,h2,by simpa using h3,fun j e p he hp=>?_,fun j e p he hp=>?_,h5⟩
 ·exact(h4 j e (enc p.1,p.2) (by simpa using he) (by rw[zPu,hp];rfl)).2.1
 ·have:=h4 j e (enc p.1,p.2) (by simpa using he) (by rw[zPu,hp];rfl);exact⟨this.1,this.2.2⟩
theorem zXm{g:Gh}{w:World}{id k e:Nat}{kb:Option Nat}{L:List (κ×D)}{zd:D}(h:ObOk g w id (.map kb (kvs enc L)))(ht:zPr P t=some (k,e))(hk:KeyOk P k enc)(hz:zRy P e=some zd)(a:κ)(c:Bool):
  ∃b v,g.blk id=some b/\(Instr.lookup t (.map (some b)) (enc a) c).run P w=.ok (if c then .tuple #[v,.bool (zH3 L a).isSome]else v) w/\RepD g.St w v ((zH3 L a).getD zd):=by
 obtain⟨b,es,h1,h2,h3,h4,h5,_⟩:=zYw h
 obtain⟨kind,k1,k2,k3,k4⟩:=hk.ex
 obtain⟨z,z1,z2⟩:=zS9 hz
 have hck:=MapKept.run_checkKey (w:=w) k1 (k2 a) es.isEmpty 9999
 rcases zLg k3 a es.toList L 0 h3 h4 with⟨f1,f2⟩|⟨e0,d0,f1,f2,f3⟩
 ·refine⟨b,z,h1,?_,by rw[f1];exact z2 _ _⟩
  simp only[Instr.lookup,Sem.run_bind,run_underlying (zIR ht),MapKept.run_getObj_map h2,hck,MapKept.run_findKey k1 f2,z1,f1,Result.andThen,Sem.run_pure]
  cases c <;> rfl
 ·have hp:=(zJy f2).1
  refine⟨b,e0.val,h1,?_,by rw[f2];exact(h5 _ _ _ f1 hp).2⟩
  simp only[Instr.lookup,Sem.run_bind,run_underlying (zIR ht),MapKept.run_getObj_map h2,hck,MapKept.run_findKey k1 f3,f2,Result.andThen,Sem.run_pure]
  cases c <;> rfl
theorem zbs{id k e:Nat}{kb:Option Nat}{L:List (κ×D)}{a:κ}{zd:D}(hx:oval σ x=.mp id)(ho:η[id]?=some (.map kb (kvs enc L)))(hy:oval σ y=.d (.val (enc a)))(ht:zPr P t=some (k,e))(hk:KeyOk P k enc)(hz:zRy P e=some zd):
  Ylds P η σ ⟨dst,.lookup t x y false,ty,pos,after,gd⟩ (.d ((zH3 L a).getD zd)):=by
 refine Ylds.same fun g w ac hi h=>?_
 have h1:=h x (by simp[Op.operands]);rw[hx]at h1
 have h2:=h y (by simp[Op.operands]);rw[hy]at h2
 obtain⟨_,b,hb,hv⟩:=h1
 obtain⟨b',v,hb',hr,hd⟩:=zXm (hi.ob id _ ho) ht hk hz a false
 rw[hb]at hb';injection hb' with hb';subst hb'
 exact⟨v,by simp only[execOp,hv,RepD.val_eq h2,Sem.run_bind,hr];rfl,hd⟩
theorem zbt{id k e:Nat}{q:IntKind}{kb:Option Nat}{L:List (Int×D)}{a:Int}{zd:D}(hx:oval σ x=.mp id)(ho:η[id]?=some (.map kb (kvs (fun a=>.int q a) L)))(hy:oval σ y=.d (.val (.int q a)))(ht:zPr P t=some (k,e))(hk:P.underlying k=some (.int q))(hz:zRy P e=some zd):
  Ylds P η σ ⟨dst,.lookup t x y false,ty,pos,after,gd⟩ (.d ((zH3 L a).getD zd)):=zbs hx ho hy ht (zY0 hk) hz
end
section
variable {C:Ctx}{ops:Array Oper}{rest:List Oper}{K:Sl->List Ob->Prop}{σ:Sl}{η:List Ob}{d:Nat}{ty:TypeId}{pos:String}{after:Array Edge}{gd:Option (Nat×Bool)}{t:TypeId}{x y z:Operand}
theorem AbsG.setObj{g:Gh}{a:Act}{w w':World}(h:AbsG C g σ η a w){id b:Nat}{o:Ob}(hidl:id<η.length)(hb:g.blk id=some b)(hro:C.ro<=id)(hst:∀o,¬g.St b o)
  (os:w'.os=w.os) (tape:w'.tape=w.tape) (output:w'.output=w.output) (hsz:w'.heap.size=w.heap.size) (hoth:∀k,k≠b->w'.heap[k]?=w.heap[k]?)
  (ok:Keep g.St w g.St w'->ObOk g w' id o):AbsG C g σ (η.set id o) a w':=by
 have kp:Keep g.St w g.St w':=⟨fun _ _ h=>h,fun c o u hc hu=>(World.cell?_of_block (a:=⟨c,o,none⟩) (hoth c (fun e=>hst o (e▸hc)))).trans hu,fun c hc=>hoth c (fun e=>hst 0 (e▸hc 0))⟩
 have rk:∀{v:Value} {s':SV},RepS g w v s'->RepS g w' v s':=fun r=>r.ext kp (fun _ _=>⟨rfl,rfl,rfl⟩) (qAP _)
 refine⟨h.defers,h.size,⟨by rw[qAZ];exact h.inv.n,fun i c hc=>by rw[hsz];exact h.inv.lt i c hc,h.inv.dead,h.inv.inj,fun i o' ho=>?_,fun c o hc=>by rw[hsz];exact h.inv.st c o hc,h.inv.gl.keep kp⟩,os.trans h.os,tape.trans h.tape,output.trans h.output,by rw[hsz];exact h.wsize,
  fun k hk hx=>?_,h.keep.trans kp,h.new,h.own,fun t=>rk (h.rep t)⟩
 ·rw[qAX]at ho
  split at ho
  ·rename_i hc;subst hc
   try rw[if_pos hidl]at ho
   injection ho with ho;subst ho
   exact ok kp
  ·rename_i hc
   refine(h.inv.ob i o' ho).ext kp (fun _ _=>⟨rfl,rfl,rfl⟩) (qAP _) (by rw[h.inv.n];exact(qAA.1 ho).1) (fun c hcb=>⟨hoth c (fun e=>?_),fun _=>Iff.rfl⟩)
   subst e
   exact hc (h.inv.inj id i c hb hcb)
 ·rw[hoth k (fun e=>?_)]
  ·exact h.heap k hk hx
  ·subst e
   rcases h.own id k hb hro with h2|h2
   ·omega
   ·exact hx h2
section
variable {κ:Type}[DecidableEq κ]{enc:κ->Value}
omit [DecidableEq κ] in
theorem AbsG.setMap{g:Gh}{a:Act}{w:World}(ha:AbsG C g σ η a w){id b:Nat}{kb:Option Nat}{L L':List (κ×D)}{es':Array MapEntry}(ho:η[id]?=some (.map kb (kvs enc L)))(hb:g.blk id=some b)(hro:C.ro<=id)
  (hsz:es'.size=L'.length) (hes:∀(j:Nat) e p,es'[j]?=some e->L'[j]?=some p->e.born=j/\e.key=enc p.1/\RepD g.St w e.val p.2) :
  AbsG C g σ (η.set id (.map kb (kvs enc L'))) a { w with heap:=w.heap.setIfInBounds b (.map es' L'.length) }:=by
 obtain⟨b',es,h1,h2,h3,h4,h5,h6⟩:=zXX.1 (ha.inv.ob id _ ho)
 rw[hb]at h1;injection h1 with h1;subst h1
 have hbl:=ha.inv.lt id b hb
 refine ha.setObj (qAA.1 ho).1 hb hro h5 rfl rfl rfl (by simp) (fun k hk=>by simp[Array.getElem?_setIfInBounds_ne (fun e=>hk e.symm)]) fun kp=>zXX.2 ⟨b,es',hb,by rw[zPt];simp[hbl],by rw[zPt];exact hsz,fun j e p he hp=>?_,h5,h6⟩
 rw[zPu]at hp
 cases hq:L'[j]? with
 |none=>simp[hq]at hp
 |some p0 =>
  simp[hq]at hp;subst hp
  obtain⟨q1,q2,q3⟩:=hes j e p0 he hq
  exact⟨q1,q2,q3.keep kp⟩
theorem zTu{P:Program}{w:World}{v:Value}(h:Instr.sameBits 10000 v v=true): (Instr.keyThatStays v v).run P w=.ok v w:=by
 simp[Instr.keyThatStays,h]
theorem zbq{id k e:Nat}{kb:Option Nat}{L:List (κ×D)}{a:κ}{dv:D}(hx:oval σ x=.mp id)(ho:η[id]?=some (.map kb (kvs enc L)))(hy:oval σ y=.d (.val (enc a)))(hz:Co η (oval σ z) dv)(ht:zPr C.P t=some (k,e))(hk:KeyOk C.P k enc)(hro:Nat.ble C.ro id=true)
  (h:alex C false ops rest K σ (η.set id (.map kb (kvs enc (putK L a dv))))):zA2 C false ops ⟨none,.mapUpdate t x y z,ty,pos,after,gd⟩ rest K σ η:=by
 refine zOx (fun g ac w ha=>?_) h
 have h1:=ha.eval x;rw[hx]at h1
 have h2:=ha.eval y;rw[hy]at h2
 have hzr:=hz.rep ha.inv (ha.eval z)
 obtain⟨_,b,hb,hv⟩:=h1
 obtain⟨b',es,m1,m2,m3,m4,m5,m6⟩:=zYw (ha.inv.ob id _ ho)
 rw[hb]at m1;injection m1 with m1;subst m1
 obtain⟨kind,k1,k2,k3,k4⟩:=hk.ex
 have hck:=MapKept.run_checkKey (w:=w) k1 (k2 a) false 9999
 have m3':es.size=L.length:=by simpa using m3
 rcases zLg k3 a es.toList L 0 m3 m4 with⟨f1,f2⟩|⟨e0,d0,f1,f2,f3⟩
 ·obtain⟨q1,q2,q3⟩:=zMS f1
  have hset:=ha.setMap (L':=L++[(a,dv)]) (es':=es.push { key:=enc a,val:=ac.eval z,born:=L.length }) ho hb (qAO hro) (by simp[m3']) (fun j e p he hp=>by
   rw[Array.getElem?_push]at he
   split at he
   ·rename_i hj
    injection he with he;subst he
    rw[hj,m3',qAJ (qAP _)]at hp
    simp at hp;subst hp
    exact⟨hj.trans m3' |>.symm,rfl,hzr⟩
   ·rename_i hj
    have hjl:j<L.length:=by have:=(qAt.1 he).1;omega
    rw[qAI hjl]at hp
    have he':es.toList[j]?=some e:=by simpa using he
    exact⟨(m5 j e p he' hp).1,m4 j e p he' hp,(m5 j e p he' hp).2⟩)
  refine⟨_,?_,g,by rw[q2];exact hset⟩
  rw[qAE]
  simp only[execOp,hv,RepD.val_eq h2,Sem.run_bind,Instr.mapUpdate,run_underlying (zIR ht),MapKept.run_getObj_map m2,hck,MapKept.run_findKey k1 f2,MapKept.run_setObj_map _ m2,Result.andThen,Sem.run_pure]
  rfl
 ·obtain⟨q1,q2⟩:=zJy f2
  have hil:idxK L a<L.length:=(qAA.1 q1).1
  have hkey:e0.key=enc a:=m4 _ _ _ f1 q1
  have f1':es[idxK L a]?=some e0:=by simpa using f1
  have hset:=ha.setMap (L':=L.set (idxK L a) (a,dv)) (es':=es.modify (idxK L a) fun e=>{ e with key:=enc a,val:=ac.eval z }) ho hb (qAO hro) (by simp[m3']) (fun j e p he hp=>by
   rw[Array.getElem?_modify]at he
   rw[qAX]at hp
   split at he
   ·rename_i hj
    subst hj
    rw[if_pos rfl,if_pos hil]at hp
    rw[f1']at he
    simp at he hp;subst he;subst hp
    exact⟨(m5 _ _ _ f1 q1).1,rfl,hzr⟩
   ·rename_i hj
    rw[if_neg hj]at hp
    have he':es.toList[j]?=some e:=by simpa using he
    exact⟨(m5 j e p he' hp).1,m4 j e p he' hp,(m5 j e p he' hp).2⟩)
  refine⟨_,?_,g,by rw[q2];exact hset⟩
  rw[qAZ]
  rw[qAY]at f3
  have hst:(Instr.keyThatStays (((es[idxK L a]?).map (·.key)).getD (enc a)) (enc a)).run C.P w=.ok (enc a) w:=by
   rw[f1'];simp only[qBn,qBY,hkey];exact zTu (k4 a)
  simp only[execOp,hv,RepD.val_eq h2,Sem.run_bind,Instr.mapUpdate,run_underlying (zIR ht),MapKept.run_getObj_map m2,hck,MapKept.run_findKey k1 f3,hst,MapKept.run_setObj_map _ m2,Result.andThen,Sem.run_pure]
end
end
end Go.Sx
namespace Go.Sx
open Go.RowKit
def Closed(l:List Oper)(f:Nat->Bool): Prop:=∀j o,l[j]?=some o->f j=true->∀e∈o.after,Region.binds .any e=true->f e.on=true
def Deps(o:Oper)(f:Nat->Bool): Prop:=∀e∈o.after,Region.binds .any e=true->f e.on=true
theorem zMF{C:Ctx}{l:List Oper}{Q:Exit->Act->World->Prop}{K:Sl->List Ob->Prop}(hQ:∀σ' η' a w,K σ' η'->Abs C σ' η' a w->Q .normal a w)(hB:zGQ l=true)
  (m:Nat) (hm:m<=l.length) (hbar:m=l.length\/zIc l.toArray (l.length-m-1)=true) (I:(Nat->Bool)->Act->World->Prop)
  (hfin:∀f a w,(∀j,j<m->f j=true)->I f a w->∃σ η,zBP C l.toArray (l.drop m) K σ η/\Abs C σ η a w)
  (hstep:∀f j o a w,j<m->l[j]?=some o->f j=false->Closed l f->Deps o f->I f a w->
   (Region.wanted o (yielded l.toArray a.tmps)=true/\o.wp C.P a w (I (fun i=>i==j||f i)) Q)\/(Region.wanted o (yielded l.toArray a.tmps)=false/\I (fun i=>i==j||f i) (a.put o.dst undef) w)) :
  ∀(fuel:Nat) (listed:Array Bool) (a:Act) (w:World),listed.size=l.length->(listed.toList.filter (! ·)).length<=fuel->
   (∀j o,l[j]?=some o->listed.getD j true=true->∀e∈o.after,Region.binds .any e=true->listed.getD e.on true=true)->
   (∀i,m<=i->i<l.length->listed.getD i true=false)->I (fun i=>listed.getD i true) a w->wpAny C.P .any l.toArray Q fuel listed a w:=by
 have spec:=zGP hB
 intro fuel
 induction fuel with
 |zero =>
  intro listed a w hsz hc hcl hno hI
  by_cases hall:∀j,j<m->listed.getD j true=true
  ·obtain⟨σ,η,h1,h2⟩:=hfin _ a w hall hI
   exact zPV hQ hB (l.length-m) m σ η (by omega) h1 0 listed a w hsz hc hcl hall hno h2
  ·exfalso
   apply hall
   intro j hj
   cases hq:listed.getD j true with
   |true=>rfl
   |false =>
    exfalso
    have hxl:j<listed.size:=by omega
    have:false∈listed.toList.filter (! ·):=by
     rw[List.mem_filter]
     refine⟨?_,rfl⟩
     rw[qAL,qAK hxl]at hq
     simp at hq
     rw[<-hq];exact Array.mem_toList_iff.2 (Array.getElem_mem hxl)
    have:=List.length_pos_of_mem this
    omega
 |succ fuel ih =>
  intro listed a w hsz hc hcl hno hI
  by_cases hall:∀j,j<m->listed.getD j true=true
  ·obtain⟨σ,η,h1,h2⟩:=hfin _ a w hall hI
   exact zPV hQ hB (l.length-m) m σ η (by omega) h1 (fuel+1) listed a w hsz hc hcl hall hno h2
  ·refine⟨fun hr=>?_,fun j hj=>?_⟩
   ·exfalso
    apply hall
    intro j hj
    exact zOy hB listed hsz hr j (by omega)
   ·obtain⟨hun,oj,hoj,hdep⟩:=mem_ready.1 hj
    have hlj:l[j]?=some oj:=by simpa using hoj
    have hjl:j<l.length:=(qAA.1 hlj).1
    have hall':∀e∈oj.after,Region.binds .any e=true->listed.getD e.on true=true:=by
     intro e he hb
     have hlt:=(spec j oj hlj).2.1 e he hb
     rw[zOs (by omega)];exact hdep e he hb
    have hjm:j<m:=by
     rcases qAR j m with h|h
     ·exact h
     ·exfalso
      apply hall
      intro i hi
      rcases hbar with hb|hb
      ·omega
      ·have hml:m<l.length:=by omega
       have hcl':∀j o,l.toArray[j]?=some o->listed.getD j true=true->∀e∈o.after,Region.binds .any e=true->listed.getD e.on true=true:=fun j o ho=>hcl j o (by simpa using ho)
       simp only[zIc,qAV]at hb
       obtain⟨⟨_,hb1⟩,hb2⟩:=hb
       have hk1:l.toArray.size-1-(l.length-m-1)=m:=by rw[qBT];omega
       rw[hk1]at hb1
       have hlm:l.toArray[m]?=some l[m]:=by simp[hml]
       rcases qAR m j with hmj|hmj
       ·exfalso
        have hk2:l.toArray.size-(l.length-m-1)+(j-m-1)=j:=by rw[qBT];omega
        have:=qAb.1 hb2 (j-m-1) (qBN.2 (by omega))
        rw[hk1,hk2]at this
        have:=zCv (f:=fun i=>listed.getD i true) hcl' l.toArray.size j oj hoj hall' this
        rw[hno m (qAP _) hml]at this;cases this
       ·have hmj:j=m:=by omega
        subst hmj
        exact zCv (f:=fun i=>listed.getD i true) hcl' l.toArray.size j oj hoj hall' (qAb.1 hb1 i (qBN.2 hi))
    have cnt:((listed.setIfInBounds j true).toList.filter (! ·)).length<=fuel:=by
     have hjs:j<listed.size:=by omega
     have h0:listed[j]=false:=by
      rw[qAL,qAK hjs]at hun;simpa using hun
     have e1:listed.toList=listed.toList.take j++false::listed.toList.drop (j+1):=by
      conv=>lhs;rw[<-qBV j listed.toList]
      congr 1
      rw[qA9 (by simpa using hjs)]
      congr 1
     have e2:(listed.setIfInBounds j true).toList=listed.toList.take j++true::listed.toList.drop (j+1):=by
      rw[Array.toList_setIfInBounds,qBd,if_pos (by simpa using hjs)]
     rw[e1]at hc
     rw[e2]
     simp only[List.filter_append,qAE,qBI,Bool.not_false,if_true,qAN,Bool.not_true,qBK,if_false]at hc ⊢
     omega
    have pre':∀i o,l[i]?=some o->(listed.setIfInBounds j true).getD i true=true->∀e∈o.after,Region.binds .any e=true->(listed.setIfInBounds j true).getD e.on true=true:=by
     intro i o hi hli e he hb
     rw[setB listed j _ (by omega)]at hli ⊢
     by_cases hij:i=j
     ·subst hij
      rw[hlj]at hi;injection hi with hi;subst hi
      rw[hall' e he hb];simp
     ·have hbe:(i==j)=false:=by simpa using hij
      rw[hbe,qBx]at hli
      rw[hcl i o hi hli e he hb];simp
    have no':∀i,m<=i->i<l.length->(listed.setIfInBounds j true).getD i true=false:=fun i h1 h2=>by
     rw[setB listed j i (by omega),hno i h1 h2]
     have:(i==j)=false:=by simp;omega
     rw[this];rfl
    have next:∀a' w',I (fun i=>i==j||listed.getD i true) a' w'->wpAny C.P .any l.toArray Q fuel (listed.setIfInBounds j true) a' w':=fun a' w' hI'=>by
     refine ih _ a' w' (by simpa using hsz) cnt pre' no' ?_
     have:(fun i=>(listed.setIfInBounds j true).getD i true)=fun i=>i==j||listed.getD i true:=by funext i;exact setB listed j i (by omega)
     rw[this];exact hI'
    unfold wpOp
    simp only[hoj]
    rcases hstep _ j oj a w hjm hlj hun hcl hall' hI with⟨h1,h2⟩|⟨h1,h2⟩
    ·rw[if_pos h1]
     exact .inl (Oper.wp_mono next h2)
    ·rw[if_neg (by rw[h1];simp)]
     exact next _ _ h2
theorem zIN{l:List Oper}(hB:zGQ l=true){σ:Sl}{ss:List SV}{f:Nat->Bool}{j:Nat}{oj:Oper}(hlj:l[j]?=some oj)(hun:f j=false)(hcl:Closed l f)(hd:Deps oj f): ∀t,t∈oj.looksAt l.toArray->get (pst σ 0 l ss f) t=get (pst σ 0 l ss (fun i=>decide (i<j))) t:=by
 have spec:=zGP hB
 intro t ht
 refine zCW t l ss σ σ 0 _ _ rfl (fun i o hi hne=>?_)
 rw[qAY]at hne
 rcases qBS i j with h|h|h
 ·have hni:f i=false:=by
   cases hc':f i with
   |false=>rfl
   |true=>exfalso;simp[hc',h]at hne
  rcases(spec j oj hlj).2.2 i o h hi with⟨e,he,hb,hon⟩|hap
  ·have:=hd e he hb
   rw[hon,hni]at this;cases this
  ·intro hdt;exact(Oper.apart_spec hap).1 t hdt ht
 ·exfalso;subst h;simp[hun]at hne
 ·have hli:f i=true:=by
   cases hc':f i with
   |true=>rfl
   |false =>
    exfalso
    have hdd:decide (i<j)=false:=by simp;omega
    simp only[hc',hdd]at hne
    exact hne rfl
  rcases(spec i o hi).2.2 j oj h hlj with⟨e,he,hb,hon⟩|hap
  ·have:=hcl i o hi hli e he hb
   rw[hon,hun]at this;cases this
  ·intro hdt;exact(Oper.apart_spec hap).2.2 t hdt ht
theorem zIO{l:List Oper}(hB:zGQ l=true){σ:Sl}{ss:List SV}{f:Nat->Bool}{j:Nat}{oj:Oper}{sj:SV}(hlj:l[j]?=some oj)(hs:ss[j]?=some sj)(hun:f j=false)(hcl:Closed l f): ∀t,get (put (pst σ 0 l ss f) oj.dst sj) t=get (pst σ 0 l ss (fun i=>i==j||f i)) t:=by
 have spec:=zGP hB
 intro t
 have h1:=zQu t j l ss σ 0 f oj sj hlj hs (by rw[qAY];exact hun) (fun i o hi hlt' hfi=>by
  rw[qAY]at hfi
  rcases(spec i o hi).2.2 j oj (by omega) hlj with⟨e,he,hb,hon⟩|hap
  ·have:=hcl i o hi hfi e he hb
   rw[hon,hun]at this;cases this
  ·cases hdd:oj.dst with
   |none=>exact .inr rfl
   |some d=>exact .inl ((Oper.apart_spec hap).2.1 d hdd))
 rw[h1,qAY]
def Fresh(C:Ctx)(g:Gh)(w:World)(v:Value)(cs:List SV)(t:TypeId): Prop :=
 ∃b us,v=.pointer (some ⟨b,0,none⟩)/\w.heap[b]?=some (.cells us t (0,0))/\us.size=cs.length/\(∀u∈us,u.oneCell'=true)/\(∀(j:Nat) (u:Value) (s:SV),us[j]?=some u->cs[j]?=some s->RepS g w u s)/\
  (∀o,¬g.St b o)/\(∀id,g.blk id≠some b)/\C.w0.heap.size<=b/\b<w.heap.size
theorem Fresh.grow{C:Ctx}{g g':Gh}{w w':World}{v:Value}{cs:List SV}{t:TypeId}(hst:∀b o,g.St b o->b<w.heap.size)(h:Fresh C g w v cs t)(k:Grow g w g' w'): Fresh C g' w' v cs t:=by
 obtain⟨b,us,h1,h2,q1,q2,q3,h3,h4,h5,h6⟩:=h
 refine⟨b,us,h1,(k.heap b h6).trans h2,q1,q2,fun j u s hu hs=>(q3 j u s hu hs).grow hst k,fun o ho=>?_,fun id=>by rw[k.blk];exact h4 id,h5,qAa h6 k.size⟩
 rcases k.new b o ho with h7|h7
 ·exact h3 o h7
 ·omega
theorem AbsG.adopt{C:Ctx}{g:Gh}{σ:Sl}{η:List Ob}{a:Act}{w:World}(h:AbsG C g σ η a w){d:Nat}{cs:List SV}{t:TypeId}(hf:Fresh C g w (a.tmps.getD d undef) cs t):
  ∃g',AbsG C g' ((d,.ptr η.length 0)::σ) (η++[.bx none (some t) cs]) a w/\g'.St=g.St/\(∀id b,g'.blk id=some b->g.blk id=some b\/a.tmps.getD d undef=.pointer (some ⟨b,0,none⟩))/\∀{v:Value} {s:SV},RepS g w v s->RepS g' w v s:=by
 obtain⟨b,us,f1,f2,z1,z2,z3,f3,f4,f5,f6⟩:=hf
 have hn:=h.inv.n
 let g':Gh:={ g with blk:=upd g.blk g.n (some b),n:=g.n+1 }
 have hold:∀id,id<g.n->g'.blk id=g.blk id/\g'.cap id=g.cap id/\g'.sz id=g.sz id:=fun id hid=>⟨by simp[g',upd,Nat.ne_of_lt hid],rfl,rfl⟩
 have hbn:g'.blk g.n=some b:=by simp[g',upd]
 have hb':∀id c,g'.blk id=some c->(id<g.n/\g.blk id=some c)\/(id=g.n/\c=b):=by
  intro id c hc
  rcases qBS id g.n with hi|hi|hi
  ·rw[(hold id hi).1]at hc;exact .inl ⟨hi,hc⟩
  ·subst hi;rw[hbn]at hc;injection hc with hc;exact .inr ⟨rfl,hc.symm⟩
  ·have hne:id≠g.n:=by omega
   simp only[g',upd,if_neg hne]at hc
   rw[h.inv.dead id (by omega)]at hc;cases hc
 have kp:=Keep.refl g.St w
 have rx:∀{v:Value} {s:SV},RepS g w v s->RepS g' w v s:=fun r=>r.ext (g':=g') kp hold (Nat.le_succ _)
 refine⟨g',⟨h.defers,h.size,⟨by rw[qAE];show g.n+1=_;rw[hn];rfl,fun id c hc=>?_,fun id hid=>?_,fun i j c hi hj=>?_,fun id o ho=>?_,h.inv.st,h.inv.gl⟩,h.os,h.tape,h.output,h.wsize,h.heap,h.keep,h.new,fun id c hc hr=>?_,fun u=>?_⟩,rfl,fun id c hc=>?_,rx⟩
 ·rcases hb' id c hc with⟨_,q⟩|⟨_,rfl⟩
  ·exact h.inv.lt id c q
  ·exact f6
 ·have hid:g.n+1<=id:=hid
  have hne:id≠g.n:=by omega
  simp only[g',upd,if_neg hne];exact h.inv.dead id (by omega)
 ·rcases hb' i c hi with⟨q1,q2⟩|⟨q1,q2⟩ <;> rcases hb' j c hj with⟨q3,q4⟩|⟨q3,q4⟩
  ·exact h.inv.inj i j c q2 q4
  ·exact absurd (q4▸q2) (f4 i)
  ·exact absurd (q2▸q4) (f4 j)
  ·omega
 ·rw[List.getElem?_append]at ho
  split at ho
  ·rename_i hc
   exact(h.inv.ob id o ho).ext (g':=g') kp hold (Nat.le_succ _) (by omega) (fun _ _=>⟨rfl,fun _=>Iff.rfl⟩)
  ·rename_i hc
   have hid:id=g.n:=by
    have:=(qAA.1 ho).1
    simp at this;omega
   subst hid
   have:g.n-η.length=0:=by omega
   rw[this]at ho
   simp at ho;subst ho
   exact⟨b,t,us,hbn,f2,z1,z2,fun j u s hu hs=>rx (z3 j u s hu hs),f3,fun _ h=>(by cases h),fun _ h=>(qBA h).symm⟩
 ·rcases hb' id c hc with⟨_,q⟩|⟨_,rfl⟩
  ·exact h.own id c q hr
  ·exact .inl f5
 ·rw[zBx]
  split
  ·rename_i e;subst e
   refine⟨by show η.length<g.n+1;omega,b,by rw[<-hn];exact hbn,f1⟩
  ·exact rx (h.rep u)
 ·rcases hb' id c hc with⟨_,q⟩|⟨_,rfl⟩
  ·exact .inl q
  ·exact .inr f1
theorem AbsG.other{C:Ctx}{g:Gh}{σ:Sl}{η:List Ob}{a:Act}{w:World}(h:AbsG C g σ η a w){b:Nat}(us':Array Value)(hst:∀o,¬g.St b o)(hb:∀id,g.blk id≠some b)(h0:C.w0.heap.size<=b):
  AbsG C g σ η a (w.setRow b us')/\∀{v:Value} {s:SV},RepS g w v s->RepS g (w.setRow b us') v s:=by
 have hoth:∀k,k≠b->(w.setRow b us').heap[k]?=w.heap[k]?:=fun k hk=>setRow_other w b k us' hk
 have kp:Keep g.St w g.St (w.setRow b us'):=⟨fun _ _ h=>h,fun c o u hc hu=>(World.cell?_of_block (a:=⟨c,o,none⟩) (hoth c (fun e=>hst o (e▸hc)))).trans hu,fun c hc=>hoth c (fun e=>hst 0 (e▸hc 0))⟩
 have rk:∀{v:Value} {s:SV},RepS g w v s->RepS g (w.setRow b us') v s:=fun r=>r.ext kp (fun _ _=>⟨rfl,rfl,rfl⟩) (qAP _)
 refine⟨⟨h.defers,h.size,⟨h.inv.n,fun i c hc=>by rw[setRow_size];exact h.inv.lt i c hc,h.inv.dead,h.inv.inj,fun i o ho=>?_,fun c o hc=>by rw[setRow_size];exact h.inv.st c o hc,h.inv.gl.keep kp⟩,h.os,h.tape,h.output,by rw[setRow_size];exact h.wsize,
  fun k hk hx=>?_,h.keep.trans kp,h.new,h.own,fun t=>rk (h.rep t)⟩,rk⟩
 ·exact(h.inv.ob i o ho).ext kp (fun _ _=>⟨rfl,rfl,rfl⟩) (qAP _) (by rw[h.inv.n];exact(qAA.1 ho).1) (fun c hcb=>⟨hoth c (fun e=>hb i (e▸hcb)),fun _=>Iff.rfl⟩)
 ·rw[hoth k (fun e=>by omega)];exact h.heap k hk hx
structure Pn where
 d:Nat
 zs:List Value
 t:TypeId
 cs:List SV
def adσ: List Pn->Nat->Sl->Sl
 |[],_,σ=>σ
 |p::r,n,σ=>adσ r (n+1) ((p.d,.ptr n 0)::σ)
def adη(pn:List Pn): List Ob:=pn.map fun p=>.bx none (some p.t) p.cs
theorem AbsG.adoptAll{C:Ctx}{a:Act}{w:World}: ∀(pn:List Pn) (g:Gh) (σ:Sl) (η:List Ob),AbsG C g σ η a w->(∀p∈pn,Fresh C g w (a.tmps.getD p.d undef) p.cs p.t)->
  (pn.Pairwise fun p q=>a.tmps.getD p.d undef≠a.tmps.getD q.d undef)->Abs C (adσ pn η.length σ) (η++adη pn) a w
 |[],g,σ,η,h,_,_=>⟨g,by simpa[adσ,adη]using h⟩
 |p::r,g,σ,η,h,hf,hp=>by
  obtain⟨hp1,hp2⟩:=List.pairwise_cons.1 hp
  obtain⟨g',h1,h2,h3,h4⟩:=h.adopt (hf p (by simp))
  have:=AbsG.adoptAll r g' _ _ h1 (fun q hq=>?_) hp2
  ·rw[qAE]at this
   simpa[adσ,adη,List.append_assoc]using this
  ·obtain⟨b,us,f1,f2,z1,z2,z3,f3,f4,f5,f6⟩:=hf q (by simp[hq])
   refine⟨b,us,f1,f2,z1,z2,fun j u s hu hs=>h4 (z3 j u s hu hs),by rw[h2];exact f3,fun id hid=>?_,f5,f6⟩
   rcases h3 id b hid with h5|h5
   ·exact f4 id h5
   ·exact hp1 q hq (by rw[h5,f1])
def once(l:List Oper)(j d:Nat): Bool:=(List.range l.length).all fun i=>Nat.beq i j||match l[i]? with|some o=>!(match o.dst with|some e=>Nat.beq e d|none=>false)|none=>true
theorem zLN{l:List Oper}{j d:Nat}(h:once l j d=true){i:Nat}{o:Oper}(hi:l[i]?=some o)(hne:i≠j): o.dst≠some d:=by
 have:=qAb.1 h i (qBN.2 (qAA.1 hi).1)
 intro hd
 simp[hi,hd]at this
 exact hne this
inductive SegK where
 |y (s:SV)
 |mk (p:Pn) (st:Option Nat)
 |st (of:Nat) (p:Pn)
def SegK.sv: SegK->SV
 | .y s=>s
 | .mk _ _=>.top
 | .st _ _=>.top
def zPi(C:Ctx)(l:List Oper)(η:List Ob)(all:List SegK): Nat->List Oper->List SegK->Sl->Prop
 |j,o::r,.y s::ks,σ=>(Wants l.toArray σ o.guard true/\Ylds C.P η σ o s)/\zEg C.N o.dst/\zPi C l η all (j+1) r ks (put σ o.dst s)
 |j,o::r,.mk p st::ks,σ=>(o.op=.alloc p.t/\o.guard=none/\o.dst=some p.d/\zBq C.P p.t=some p.zs/\once l j p.d=true/\(match st with|none=>p.cs=p.zs.map cst|some i=>all[i]?=some (.st j p)))/\zEg C.N o.dst/\zPi C l η all (j+1) r ks (put σ o.dst .top)
 |j,o::r,.st i p::ks,σ=>((∃t x y b0 n,o.op=.store t x y/\x=.tmp p.d/\zHw (oval σ y)=some p.cs/\zBD C.P t=some (b0,n)/\Nat.beq p.cs.length n=true)/\o.guard=none/\o.dst=none/\all[i]?=some (.mk p (some j))/\Nat.blt i j=true/\Nat.beq p.zs.length p.cs.length=true)/\zPi C l η all (j+1) r ks (put σ o.dst .top)
 |_,_,[],_=>True
 |_,[],_::_,_=>False
def pnOf: List SegK->List Pn
 |[]=>[]
 | .mk p _::r=>p::pnOf r
 |_::r=>pnOf r
def segσ: List Oper->List SegK->Sl->Sl
 |o::r,k::ks,σ=>segσ r ks (put σ o.dst k.sv)
 |_,_,σ=>σ
theorem zJI{C:Ctx}{l:List Oper}{η:List Ob}{all:List SegK}: ∀(r:List Oper) (ks:List SegK) (j:Nat) (σ:Sl),zPi C l η all j r ks σ->ks.length<=r.length
 |_,[],_,_,_=>qAQ _
 |o::r,.y s::ks,j,σ,h=>by have:=zJI r ks _ _ h.2.2;simpa using this
 |o::r,.mk p _::ks,j,σ,h=>by have:=zJI r ks _ _ h.2.2;simpa using this
 |o::r,.st _ p::ks,j,σ,h=>by have:=zJI r ks _ _ h.2;simpa using this
 |[],_::_,_,_,h=>h.elim
theorem zQj{C:Ctx}{l:List Oper}{η:List Ob}{all:List SegK}: ∀(r:List Oper) (ks:List SegK) (j:Nat) (σ:Sl),zPi C l η all j r ks σ->∀(i:Nat) o k,r[i]?=some o->ks[i]?=some k->
  (match k with
  | .y s=>zEg C.N o.dst/\Wants l.toArray (pst σ j r (ks.map SegK.sv) (fun m=>decide (m<j+i))) o.guard true/\Ylds C.P η (pst σ j r (ks.map SegK.sv) (fun m=>decide (m<j+i))) o s
  | .mk p st=>zEg C.N o.dst/\o.op=.alloc p.t/\o.guard=none/\o.dst=some p.d/\zBq C.P p.t=some p.zs/\once l (j+i) p.d=true/\(match st with|none=>p.cs=p.zs.map cst|some m=>all[m]?=some (.st (j+i) p))
  | .st m p=>(∃t x y b0 n,o.op=.store t x y/\x=.tmp p.d/\zHw (oval (pst σ j r (ks.map SegK.sv) (fun m=>decide (m<j+i))) y)=some p.cs/\zBD C.P t=some (b0,n)/\Nat.beq p.cs.length n=true)/\o.guard=none/\o.dst=none/\all[m]?=some (.mk p (some (j+i)))/\Nat.blt m (j+i)=true/\Nat.beq p.zs.length p.cs.length=true)
 |_,[],_,_,_,i,o,k,_,hk=>by simp at hk
 |[],_::_,_,_,h,_,_,_,_,_=>h.elim
 |o::r,k::ks,j,σ,h,0,o',k',ho,hk=>by
  simp at ho hk;subst ho;subst hk
  have e0:∀t,get (pst σ j (o::r) ((k::ks).map SegK.sv) (fun m=>decide (m<j+0))) t=get σ t:=by
   intro t
   have:=zCW t (o::r) ((k::ks).map SegK.sv) σ σ j (fun m=>decide (m<j+0)) (fun _=>false) rfl (fun i o' hi hne=>by simp at hne)
   rw[this,zD4]
  cases k with
  |y s=>exact⟨h.2.1,h.1.1.congr e0,h.1.2.congr fun x _=>zDP e0 x⟩
  |mk p st=>exact⟨h.2.1,h.1⟩
  |st m p =>
   obtain⟨⟨⟨t,x,y,b0,n,h1,h2,h3,h4⟩,h5⟩,_⟩:=h
   exact⟨⟨t,x,y,b0,n,h1,h2,by rw[zDP e0 y];exact h3,h4⟩,h5⟩
 |o::r,k::ks,j,σ,h,i+1,o',k',ho,hk=>by
  have hh:zPi C l η all (j+1) r ks (put σ o.dst k.sv):=by
   cases k with
   |y s=>exact h.2.2
   |mk p st=>exact h.2.2
   |st m p=>exact h.2
  have:=zQj r ks (j+1) _ hh i o' k' (by simpa using ho) (by simpa using hk)
  have hj:j+(i+1)=j+1+i:=by omega
  have hd:decide (j<j+1+i)=true:=by simp;omega
  simp only[qAr,pst,hj,hd]
  exact this
theorem zJH: ∀(r:List Oper) (ks:List SegK) (j:Nat) (σ:Sl) (f:Nat->Bool),(∀i,i<ks.length->f (j+i)=true)->pst σ j r (ks.map SegK.sv) f=segσ r ks σ
 |[],ks,_,_,_,_=>by cases ks <;> rfl
 |_::_,[],_,_,_,_=>rfl
 |o::r,k::ks,j,σ,f,h=>by
  have h0:=h 0 (by simp)
  rw[qA6]at h0
  simp only[qAr,pst,h0,segσ]
  exact zJH r ks (j+1) _ f (fun i hi=>by rw[show j+1+i=j+(i+1) by omega];exact h (i+1) (by simpa using hi))
theorem zJN: ∀{ks:List SegK} {p:Pn},p∈pnOf ks->∃(j:Nat) (st:Option Nat),ks[j]?=some (.mk p st)
 | .y s::ks,p,h=>by obtain⟨j,st,hj⟩:=zJN (ks:=ks) h;exact⟨j+1,st,by simpa using hj⟩
 | .st _ _::ks,p,h=>by obtain⟨j,st,hj⟩:=zJN (ks:=ks) h;exact⟨j+1,st,by simpa using hj⟩
 | .mk q st::ks,p,h=>by
  rcases qBL.1 h with rfl|h
  ·exact⟨0,st,rfl⟩
  ·obtain⟨j,st,hj⟩:=zJN (ks:=ks) h;exact⟨j+1,st,by simpa using hj⟩
 |[],p,h=>by simp[pnOf]at h
theorem zJM{R:Pn->Pn->Prop}: ∀(ks:List SegK),(∀(i j:Nat) p q s s',ks[i]?=some (.mk p s)->ks[j]?=some (.mk q s')->i≠j->R p q)->(pnOf ks).Pairwise R
 |[],_=>.nil
 | .y s::ks,h=>zJM ks (fun i j p q s s' hi hj hne=>h (i+1) (j+1) p q s s' (by simpa using hi) (by simpa using hj) (by omega))
 | .st _ _::ks,h=>zJM ks (fun i j p q s s' hi hj hne=>h (i+1) (j+1) p q s s' (by simpa using hi) (by simpa using hj) (by omega))
 | .mk p st::ks,h=>List.pairwise_cons.2 ⟨fun q hq=>by obtain⟨j,s',hj⟩:=zJN hq;exact h 0 (j+1) p q st s' rfl (by simpa using hj) (by omega),zJM ks (fun i j p q s s' hi hj hne=>h (i+1) (j+1) p q s s' (by simpa using hi) (by simpa using hj) (by omega))⟩
theorem zIB{P:Program}{t:TypeId}{zs:List Value}(h:zBq P t=some zs): (∀v∈zs,v.oneCell'=true)/\∃z,z.cells.toList=zs/\(∀w,(zeroValue t).run P w=.ok z w):=by
 unfold zBq at h
 split at h
 ·rename_i i hi
  split at h
  ·rename_i z hz
   split at h
   ·rename_i hall
    injection h with h;subst h
    exact⟨fun v hv=>Array.all_eq_true_iff_forall_mem.1 hall v (by simpa using hv),z,rfl,fun w=>by simp[zeroValue,typeInfo,hi,hz]⟩
   ·cases h
  ·cases h
 ·cases h
def holds(f:Nat->Bool)(p:Pn)(st:Option Nat): List SV:=match st with
 |none=>p.cs
 |some i=>if f i then p.cs else p.zs.map cst
theorem zHF{C:Ctx}{Q:Exit->Sl->List Ob->Prop}{σ:Sl}{η:List Ob}{id:Nat}{l:List Oper}(ks:List SegK)(hm:C.P.follows .mixedOrders=true)(hB:zGQ l=true)
  (hbar:ks.length=l.length\/zIc l.toArray (l.length-ks.length-1)=true) (hs:zPi C l η ks 0 l ks σ)
  (h:alex C true l.toArray (l.drop ks.length) (Q .normal) (adσ (pnOf ks) η.length (segσ l ks σ)) (η++adη (pnOf ks))):awp C (.region id l.toArray true) Q σ η:=by
 intro R hR a w ⟨g,hg⟩
 have hd:Abs C σ η a { w with drawn:=w.drawn+1 }:=⟨g,hg.grow ⟨rfl,rfl,rfl,rfl,rfl,rfl,rfl,qAP _,fun _ _=>rfl,fun _ _ h=>h,fun _ _ h=>.inl h,hg.inv.st⟩⟩
 have hkl:=zJI l ks 0 σ hs
 have hat:=zQj l ks 0 σ hs
 have spec:=zGP hB
 let I:(Nat->Bool)->Act->World->Prop:=fun f a w=>∃g,AbsG C g (pst σ 0 l (ks.map SegK.sv) f) η a w/\(∀(j:Nat) p st,ks[j]?=some (.mk p st)->f j=true->Fresh C g w (a.tmps.getD p.d undef) (holds f p st) p.t)/\
  (∀(i j:Nat) p q s s',ks[i]?=some (.mk p s)->ks[j]?=some (.mk q s')->i≠j->f i=true->f j=true->a.tmps.getD p.d undef≠a.tmps.getD q.d undef)
 have hlk:∀{j:Nat} {k:SegK},ks[j]?=some k->∃o,l[j]?=some o:=fun hk=>⟨_,qAB (qAa (qAA.1 hk).1 hkl)⟩
 refine wp_region_any hm (zMF (C:=C) (K:=Q .normal) (fun σ' η' a w hk hab=>hR _ _ _ _ _ hk hab) hB ks.length hkl hbar I ?_ ?_ _ _ a _ (by simp) ?_ ?_ (fun i _ hi=>?_) ?_)
 ·intro f a w hf ⟨g,h1,h2,h3⟩
  refine⟨_,_,h,?_⟩
  rw[zJH l ks 0 σ f (fun i hi=>by rw[qAY];exact hf i hi)]at h1
  refine h1.adoptAll _ _ _ _ (fun p hp=>?_) (zJM ks fun i j p q s s' hi hj hne=>h3 i j p q s s' hi hj hne (hf i (qAA.1 hi).1) (hf j (qAA.1 hj).1))
  obtain⟨j,st,hj⟩:=zJN hp
  have hjl:=(qAA.1 hj).1
  have hfr:=h2 j p st hj (hf j hjl)
  obtain⟨o,ho⟩:=hlk hj
  have hcs:holds f p st=p.cs:=by
   cases st with
   |none=>rfl
   |some i =>
    have:ks[i]?=some (.st (0+j) p):=(hat j o _ ho hj).2.2.2.2.2.2
    have hil:i<ks.length:=(qAA.1 this).1
    simp only[holds,hf i hil,if_true]
  rw[hcs]at hfr;exact hfr
 ·intro f j o a w hjm hlj hun hcl hdep ⟨g,h1,h2,h3⟩
  obtain⟨k,hk⟩:∃k,ks[j]?=some k:=⟨_,qAB hjm⟩
  have hkk:=hat j o k hlj hk
  rw[qAY]at hkk
  have same:=zIN (σ:=σ) (ss:=ks.map SegK.sv) hB hlj hun hcl hdep
  have hsk:(ks.map SegK.sv)[j]?=some k.sv:=by rw[qAH,hk];rfl
  have next:=zIO (σ:=σ) hB hlj hsk hun hcl
  have stay:∀(i:Nat) p st v,ks[i]?=some (.mk p st)->i≠j->(a.put o.dst v).tmps.getD p.d undef=a.tmps.getD p.d undef:=by
   intro i p st v hi hne
   obtain⟨o',hli⟩:=hlk hi
   have hon:=(hat i _ _ hli hi).2.2.2.2.2.1
   rw[qAY]at hon
   have hne2:=zLN hon hlj (fun e=>hne e.symm)
   cases hod:o.dst with
   |none=>rfl
   |some e =>
    have:e≠p.d:=fun h=>hne2 (by rw[hod,h])
    simp[Act.put,Array.getD_eq_getD_getElem?,Array.getElem?_setIfInBounds_ne this]
  have hmk:∀i,(i==j||f i)=true->i≠j->f i=true:=fun i h hne=>by
   have:(i==j)=false:=by simpa using hne
   simpa[this]using h
  have hsame:(∀m p,k≠.st m p)->∀(i:Nat) p st,ks[i]?=some (.mk p st)->holds (fun i=>i==j||f i) p st=holds f p st:=fun hns i p st hi=>by
   cases st with
   |none=>rfl
   |some m =>
    obtain⟨o',ho'⟩:=hlk hi
    have:ks[m]?=some (.st (0+i) p):=(hat i o' _ ho' hi).2.2.2.2.2.2
    have hmj:m≠j:=fun e=>by subst e;rw[hk]at this;exact hns _ _ (qBA this)
    have:(m==j)=false:=by simpa using hmj
    simp only[holds,this,qBx]
  cases k with
  |y s =>
   left
   obtain⟨hdst,hw,hy⟩:=hkk
   refine⟨hw.wanted (g:=g) (w:=w) fun t q b hgd ht=>by rw[<-same t (zFI hgd ht)];exact h1.rep t,?_⟩
   have hy':Ylds C.P η (pst σ 0 l (ks.map SegK.sv) f) o s:=hy.congr fun x hx=>by
    cases x with
    |tmp t=>exact same t (zBv hx)
    |_=>rfl
   have fin:∀v g' w',Grow g w g' w'->RepS g' w' v s->I (fun i=>i==j||f i) (a.put o.dst v) w':=fun v g' w' hgr hr=>by
    have hab:=(h1.grow hgr).put hdst hr
    refine⟨g',hab.get_eq fun t=>.inl (next t).symm,fun i p st hi hfi=>?_,fun i i2 p q s1 s2 hi hi2 hne hf1 hf2=>?_⟩
    ·have hne:i≠j:=fun e=>by subst e;rw[hk]at hi;cases hi
     rw[stay i p st v hi hne,hsame (fun _ _ h=>by cases h) i p st hi]
     exact(h2 i p st hi (hmk i hfi hne)).grow h1.inv.st hgr
    ·have hne1:i≠j:=fun e=>by subst e;rw[hk]at hi;cases hi
     have hne2:i2≠j:=fun e=>by subst e;rw[hk]at hi2;cases hi2
     rw[stay i p s1 v hi hne1,stay i2 q s2 v hi2 hne2]
     exact h3 i i2 p q s1 s2 hi hi2 hne (hmk i hf1 hne1) (hmk i2 hf2 hne2)
   unfold Oper.wp
   rcases hy' g w a h1.inv (fun x _=>h1.eval x)with⟨v,g',w',hr,hg,hs'⟩|⟨fn,args,hr,hc⟩
   ·rw[hr];exact fin v g' w' hg hs'
   ·rw[hr,Oper.upon_enter]
    refine hc.mono fun e w' ⟨v,g',he,hg,hs'⟩=>?_
    subst he
    exact fin v g' w' hg hs'
  |mk p st =>
   left
   obtain⟨hdst,q1,q2,q3,q4,q5,q6⟩:=hkk
   refine⟨by unfold Region.wanted;rw[q2],?_⟩
   obtain⟨z1,z,z2,z3⟩:=zIB q4
   have hrun:(execOp a.eval o).run C.P w=.ok (.value (.pointer (some ⟨w.heap.size,0,none⟩))) (w.alloc (.cells z.cells p.t)):=by
    simp[execOp,q1,Instr.alloc,z3,newVar,newRow]
   have hgr:Grow g w g (w.alloc (.cells z.cells p.t)):=⟨rfl,rfl,rfl,rfl,rfl,rfl,rfl,by simp,fun k hk=>Below.heap_alloc w _ k hk,fun _ _ h=>h,fun _ _ h=>.inl h,fun b o hb=>qAa (h1.inv.st b o hb) (by simp)⟩
   unfold Oper.wp
   rw[hrun]
   have hab:=(h1.grow hgr).put (d:=o.dst) (v:=.pointer (some ⟨w.heap.size,0,none⟩)) (s:=.top) hdst trivial
   have hnew:(a.put o.dst (.pointer (some ⟨w.heap.size,0,none⟩))).tmps.getD p.d undef=.pointer (some ⟨w.heap.size,0,none⟩):=by
    rw[q3]
    have hlt:p.d<a.tmps.size:=by rw[q3]at hdst;rw[h1.size];simpa[zEg,Nat.blt_eq]using hdst
    simp[Act.put,hlt]
   have hold:∀(i:Nat) q s,ks[i]?=some (.mk q s)->f i=true->a.tmps.getD q.d undef≠.pointer (some ⟨w.heap.size,0,none⟩):=fun i q s hi hfi he=>by
    obtain⟨b,us,f1,_,_,_,_,_,_,_,f6⟩:=h2 i q s hi hfi
    rw[he]at f1
    injection f1 with f1;injection f1 with f1;injection f1 with f1
    omega
   have hz:holds (fun i=>i==j||f i) p st=p.zs.map cst:=by
    cases st with
    |none=>exact q6
    |some m =>
     simp only at q6
     obtain⟨o',ho'⟩:=hlk q6
     obtain⟨⟨tt,x,y,b0,n,r1,r2,_⟩,_,_,_,r3,_⟩:=hat m o' _ ho' q6
     rw[qAY]at r3
     have hjm:j<m:=by simpa using r3
     have hfm:f m=false:=by
      cases hfm:f m with
      |false=>rfl
      |true =>
       rcases(spec m o' ho').2.2 j o hjm hlj with⟨e,he,hb,hon⟩|hap
       ·have:=hcl m o' ho' hfm e he hb
        rw[hon,hun]at this;cases this
       ·exact absurd (zBv (ops:=l.toArray) (o:=o') (t:=p.d) (by rw[r1,r2];simp[Op.operands])) ((Oper.apart_spec hap).1 p.d q3)
     have:(m==j)=false:=by simp;omega
     simp only[holds,this,hfm,Bool.or_false,qBK,if_false]
   refine⟨g,hab.get_eq fun t=>.inl (next t).symm,fun i q s hi hfi=>?_,fun i i2 q q' s s' hi hi2 hne hf1 hf2=>?_⟩
   ·by_cases hij:i=j
    ·subst hij
     rw[hk]at hi;injection hi with hi;injection hi with hi hi';subst hi;subst hi'
     rw[hnew,hz]
     refine⟨w.heap.size,z.cells,rfl,_root_.Go.heap_alloc_new w _,by rw[<-z2];simp,fun u hu=>z1 u (by rw[<-z2];simpa using hu),fun jj u s hu hs=>?_,fun o ho=>absurd (h1.inv.st _ o ho) (by omega),fun id hid=>absurd (h1.inv.lt id _ hid) (by omega),h1.wsize,by simp⟩
     rw[<-z2,qAH]at hs
     rw[<-qA4]at hu
     rw[hu]at hs
     simp at hs;subst hs;exact RepS.cst _ _ u
    ·rw[stay i q s _ hi hij,hsame (fun _ _ h=>by cases h) i q s hi]
     exact(h2 i q s hi (hmk i hfi hij)).grow h1.inv.st hgr
   ·by_cases hij:i=j
    ·have hij2:i2≠j:=fun e=>hne (hij.trans e.symm)
     subst hij
     rw[hk]at hi;injection hi with hi;injection hi with hi hi';subst hi
     rw[hnew,stay i2 q' s' _ hi2 hij2]
     exact fun e=>hold i2 q' s' hi2 (hmk i2 hf2 hij2) e.symm
    ·by_cases hij2:i2=j
     ·subst hij2
      rw[hk]at hi2;injection hi2 with hi2;injection hi2 with hi2 hi2';subst hi2
      rw[hnew,stay i q s _ hi hij]
      exact hold i q s hi (hmk i hf1 hij)
     ·rw[stay i q s _ hi hij,stay i2 q' s' _ hi2 hij2]
      exact h3 i i2 q q' s s' hi hi2 hne (hmk i hf1 hij) (hmk i2 hf2 hij2)
  |st m p =>
   left
   obtain⟨⟨t,x,y,b0,n,r1,r2,r3,r4,r5⟩,q2,q3,q4,q5,q6⟩:=hkk
   refine⟨by unfold Region.wanted;rw[q2],?_⟩
   have hmj:m<j:=by simpa using q5
   obtain⟨om,hom⟩:=hlk q4
   have hq4:=hat m om _ hom q4
   have hfm:f m=true:=by
    rcases(spec j o hlj).2.2 m om hmj hom with⟨e,he,hb,hon⟩|hap
    ·rw[<-hon];exact hdep e he hb
    ·exact absurd (zBv (ops:=l.toArray) (o:=o) (t:=p.d) (by rw[r1,r2];simp[Op.operands])) ((Oper.apart_spec hap).1 p.d hq4.2.2.2.1)
   have hfr:=h2 m p _ q4 hfm
   have hh:holds f p (some j)=p.zs.map cst:=by simp only[holds,hun,qBK,if_false]
   rw[hh]at hfr
   obtain⟨b,us,f1,f2,z1,z2,z3,f3,f4,f5,f6⟩:=hfr
   have hy1:oval (pst σ 0 l (ks.map SegK.sv) f) y=oval (pst σ 0 l (ks.map SegK.sv) (fun i=>decide (i<j))) y:=by
    cases y with
    |tmp u=>exact same u (zBv (by rw[r1];simp[Op.operands]))
    |_=>rfl
   have hry:=h1.eval y
   rw[hy1]at hry
   obtain⟨c1,c2,c3⟩:=hry.cells r3
   have hpl:=qAk q6
   have hn:=qAk r5
   have hus:us.size=p.cs.length:=by rw[z1,qAC];exact hpl
   have hstore:=run_storeCells_at C.P b 0 p.t (a.eval y).cells.toList 0 us w f2 (by rw[qAT];omega) (fun v hm=>c2 v (by simpa using hm))
   simp only[qA6,qAY,List.take_zero,qBj]at hstore
   rw[List.drop_of_length_le (by rw[qAT,qAT];omega),qBC]at hstore
   obtain⟨ho1,ho2⟩:=h1.other (a.eval y).cells f3 f4 f5
   have hrun:(execOp a.eval o).run C.P w=.ok .skip (w.setRow b (a.eval y).cells):=by
    have hax:a.eval x=.pointer (some ⟨b,0,none⟩):=by rw[r2];exact f1
    simp only[execOp,r1,hax,Instr.storeAt,Instr.sureAddr,storeVar,Sem.run_bind,Sem.run_pure,Result.andThen_ok,(zB8 r4 w).2,c1,hn,ne_eq,not_true,if_false,hstore]
   unfold Oper.wp
   rw[hrun]
   have hput:a.put o.dst undef=a:=by rw[q3];rfl
   show I _ (a.put o.dst undef) _
   rw[hput]
   have hnx:∀t,get (pst σ 0 l (ks.map SegK.sv) f) t=get (pst σ 0 l (ks.map SegK.sv) (fun i=>i==j||f i)) t:=fun t=>by have:=next t;rw[q3]at this;exact this
   have hoth:∀k,k≠b->(w.setRow b (a.eval y).cells).heap[k]?=w.heap[k]?:=fun k hk=>setRow_other w b k _ hk
   refine⟨g,ho1.get_eq fun t=>.inl (hnx t).symm,fun i q s hi hfi=>?_,fun i i2 q q' s s' hi hi2 hne hf1 hf2=>?_⟩
   ·have hij:i≠j:=fun e=>by subst e;rw[hk]at hi;cases hi
    have hfi':=hmk i hfi hij
    by_cases him:i=m
    ·subst him
     rw[q4]at hi;injection hi with hi;injection hi with hi hi';subst hi;subst hi'
     have hh2:holds (fun i=>i==j||f i) p (some j)=p.cs:=by simp[holds]
     rw[hh2]
     exact⟨b,(a.eval y).cells,f1,setRow_heap w b us _ p.t (0,0) f2,c1,c2,fun jj u s hu hs=>ho2 (c3 jj u s hu hs),f3,f4,f5,by rw[setRow_size];exact f6⟩
    ·have hne':∀st,s=some st->st≠j:=fun st hst hsj=>by
      subst hst;subst hsj
      obtain⟨o',ho'⟩:=hlk hi
      have:ks[st]?=some (.st (0+i) q):=(hat i o' _ ho' hi).2.2.2.2.2.2
      simp only[qAY]at this
      rw[hk]at this
      injection this with this;injection this with e1 e2
      exact him e1.symm
     have hh2:holds (fun i=>i==j||f i) q s=holds f q s:=by
      cases s with
      |none=>rfl
      |some st =>
       have:(st==j)=false:=by simpa using hne' st rfl
       simp only[holds,this,qBx]
     rw[hh2]
     obtain⟨b2,us2,g1,g2,y1,y2,y3,g3,g4,g5,g6⟩:=h2 i q s hi hfi'
     have hbb:b2≠b:=fun e=>by
      have:=h3 i m q p s _ hi q4 him hfi' hfm
      rw[g1,f1,e]at this;exact this rfl
     exact⟨b2,us2,g1,(hoth b2 hbb).trans g2,y1,y2,fun jj u s hu hs=>ho2 (y3 jj u s hu hs),g3,g4,g5,by rw[setRow_size];exact g6⟩
   ·have hij:i≠j:=fun e=>by subst e;rw[hk]at hi;cases hi
    have hij2:i2≠j:=fun e=>by subst e;rw[hk]at hi2;cases hi2
    exact h3 i i2 q q' s s' hi hi2 hne (hmk i hf1 hij) (hmk i2 hf2 hij2)
 ·refine qAu (qBD _ _) (by simp)
 ·intro j o hj hl
  have hjl:j<l.length:=(qAA.1 hj).1
  rw[qAL,qAK (by simpa using hjl)]at hl
  simp at hl
 ·rw[qAL,qAK (by simpa using hi)]
  simp
 ·obtain⟨g',hg'⟩:=hd
  have hf0:∀i,i<l.length->(Array.replicate l.toArray.size false).getD i true=false:=fun i hi=>by
   rw[qAL,qAK (by simpa using hi)];simp
  refine⟨g',hg'.get_eq fun t=>.inl ?_,fun j p st hj hf=>?_,fun i j p q s s' hi _ _ hf _=>?_⟩
  ·rw[zCW t l (ks.map SegK.sv) σ σ 0 _ (fun _=>false) rfl (fun i o hi hne=>?_),zD4]
   rw[qAY,hf0 i (qAA.1 hi).1]at hne
   exact absurd rfl hne
  ·have:=hf0 j (by have:=(qAA.1 hj).1;omega)
   simp only[this]at hf;cases hf
  ·have:=hf0 i (by have:=(qAA.1 hi).1;omega)
   simp only[this]at hf;cases hf
def zCj(P:Program)(t:TypeId): Option (List (Nat×Nat)) :=
 match P.underlying t with
 |some (.struct fs)=>fs.toList.mapM fun f=>(P.info? f.type).map fun i=>(f.offset,i.size)
 |_=>none
def zOw{α:Type}(pl:List (Nat×Nat)): List α->List (Nat×List α)->Option (List α)
 |cs,[]=>some cs
 |cs,(i,vs)::r=>match pl[i]? with
  |some (off,size)=>match Nat.beq vs.length size&&Nat.ble (off+vs.length) cs.length with
   |true=>zOw pl (cs.take off++vs++cs.drop (off+vs.length)) r
   |false=>none
  |none=>none
theorem zOt: ∀(l:List Value) (off k:Nat) (cells:Array Value),off+k+l.length<=cells.size->
  ((l.zipIdx k).foldl (fun cs (x:Value×Nat)=>cs.setIfInBounds (off+x.2) x.1) cells).toList=cells.toList.take (off+k)++l++cells.toList.drop (off+k+l.length)
 |[],off,k,cells,_=>by simp
 |v::l,off,k,cells,h=>by
  have hl:off+k<cells.size:=by simp at h;omega
  simp only[List.zipIdx_cons,List.foldl_cons]
  rw[zOt l off (k+1) _ (by simp at h ⊢;omega)]
  have e1:(cells.setIfInBounds (off+k) v).toList=cells.toList.take (off+k)++v::cells.toList.drop (off+k+1):=by
   rw[Array.toList_setIfInBounds,qBd,if_pos (by simpa using hl)]
  have e2:(cells.toList.take (off+k)).length=off+k:=by rw[qAG,qAT];omega
  rw[e1,show off+(k+1)=off+k+1 by omega]
  have e5:cells.toList.drop (off+k+1+l.length)=(cells.toList.drop (off+k+1)).drop l.length:=by rw[List.drop_drop]
  rw[qAN,show off+k+(l.length+1)=off+k+1+l.length by omega,e5]
  generalize cells.toList.take (off+k)=A at *
  generalize cells.toList.drop (off+k+1)=B at *
  rw[List.take_append,List.drop_append,e2,qAe (by omega),List.drop_eq_nil_of_le (by omega:A.length<=off+k+1+l.length)]
  rw[show off+k+1-(off+k)=1 by omega,show off+k+1+l.length-(off+k)=l.length+1 by omega]
  simp
theorem zRN{α:Type}{R:Value->α->Prop}{pl:List (Nat×Nat)}: ∀(ps:List (Nat×Value)) (ss:List (Nat×List α)) (cells:Array Value) (cs cs':List α),ps.length=ss.length->
  (∀(j:Nat) p q,ps[j]?=some p->ss[j]?=some q->p.1=q.1/\p.2.cells.size=q.2.length/\∀(i:Nat) u s,p.2.cells[i]?=some u->q.2[i]?=some s->R u s)->
  cells.size=cs.length->(∀(i:Nat) u s,cells[i]?=some u->cs[i]?=some s->R u s)->zOw pl cs ss=some cs'->
  ∃cells',Instr.fill (pl.toArray[·]?) cells ps=some cells'/\cells'.size=cs'.length/\∀(i:Nat) u s,cells'[i]?=some u->cs'[i]?=some s->R u s
 |[],[],cells,cs,cs',_,_,hs,hr,h=>by simp only[zOw,qBu]at h;subst h;exact⟨cells,rfl,hs,hr⟩
 |(i,v)::ps,(i',vs)::ss,cells,cs,cs',hl,hp,hs,hr,h=>by
  obtain⟨q1,q2,q3⟩:=hp 0 _ _ rfl rfl
  simp only at q1 q2 q3
  subst q1
  unfold zOw at h
  split at h
  ·rename_i off size hpl
   split at h
   ·rename_i hc
    rw[qAV]at hc
    have c1:=qAk hc.1
    have c2:=qAO hc.2
    have hfold:=zOt v.cells.toList off 0 cells (by rw[qAT];omega)
    have hz:(v.cells.zipIdx.foldl (fun cs (x:Value×Nat)=>cs.setIfInBounds (off+x.2) x.1) cells).toList=cells.toList.take off++v.cells.toList++cells.toList.drop (off+v.cells.size):=by
     rw[<-Array.foldl_toList,Array.toList_zipIdx]
     simpa using hfold
    have hsz:(v.cells.zipIdx.foldl (fun cs (x:Value×Nat)=>cs.setIfInBounds (off+x.2) x.1) cells).size=cells.size:=by
     rw[<-qAT,hz];simp;omega
    obtain⟨cells',r1,r2,r3⟩:=zRN (R:=R) ps ss (v.cells.zipIdx.foldl (fun cs (x:Value×Nat)=>cs.setIfInBounds (off+x.2) x.1) cells) _ cs' (by simpa using hl) (fun j p q h1 h2=>hp (j+1) p q (by simpa using h1) (by simpa using h2)) (by rw[hsz];simp;omega) (fun j u s hu hsj=>by
     rw[<-qA4,hz]at hu
     have e1:(cells.toList.take off).length=off:=by rw[qAG,qAT];omega
     have e2:(cs.take off).length=off:=by rw[qAG];omega
     rcases qAR j off with hj|hj
     ·rw[qAg,qAI (by omega),qAS,if_pos hj]at hu hsj
      exact hr j u s (by simpa using hu) hsj
     ·rw[qAg,qAJ (by omega)]at hu hsj
      rw[e1]at hu;rw[e2]at hsj
      rcases qAR (j-off) vs.length with hj2|hj2
      ·rw[qAI (by first|omega|(rw[qAT];omega))]at hu hsj
       exact q3 (j-off) u s (by simpa using hu) hsj
      ·rw[qAJ (by first|omega|(rw[qAT];omega))]at hu hsj
       rw[qAT,q2]at hu
       simp only[qAl]at hu hsj
       exact hr (off+vs.length+(j-off-vs.length)) u s (by simpa using hu) hsj) h
    refine⟨cells',?_,r2,r3⟩
    have hpl':pl.toArray[i]?=some (off,size):=by simpa using hpl
    have hcond:(decide (v.cells.size≠size)||decide (off+v.cells.size>cells.size))=false:=by simp;omega
    simp only[Instr.fill,hpl',hcond,qBK,if_false]
    exact r1
   ·cases h
  ·cases h
 |[],_::_,_,_,_,hl,_,_,_,_=>by simp at hl
 |_::_,[],_,_,_,hl,_,_,_,_=>by simp at hl
theorem zLo{P:Program}{t:TypeId}{pl:List (Nat×Nat)}{zs:List Value}{α:Type}{R:Value->α->Prop}{ps:List (Nat×Value)}{ss:List (Nat×List α)}{cs cs':List α}(hpl:zCj P t=some pl)(hz:zBq P t=some zs)(hl:ps.length=ss.length)
  (hp:∀(j:Nat) p q,ps[j]?=some p->ss[j]?=some q->p.1=q.1/\p.2.cells.size=q.2.length/\∀(i:Nat) u s,p.2.cells[i]?=some u->q.2[i]?=some s->R u s)
  (hzl:zs.length=cs.length) (hzr:∀(i:Nat) u s,zs[i]?=some u->cs[i]?=some s->R u s) (h:zOw pl cs ss=some cs'):∃cells',P.built t ps=some cells'/\cells'.size=cs'.length/\∀(i:Nat) u s,cells'[i]?=some u->cs'[i]?=some s->R u s:=by
 unfold zCj at hpl
 split at hpl
 ·rename_i fs hfs
  unfold zBq at hz
  split at hz
  ·rename_i it hit
   split at hz
   ·rename_i z hzz
    split at hz
    ·injection hz with hz;subst hz
     obtain⟨cells',r1,r2⟩:=zRN (R:=R) (pl:=pl) ps ss z.cells cs cs' hl hp (by simpa using hzl) (fun i u s hu hs=>hzr i u s (by simpa using hu) hs) h
     exact⟨cells',by simp only[Program.built,hit,hfs,hzz,hpl];exact r1,r2⟩
    ·cases hz
   ·cases hz
  ·cases hz
 ·cases hpl
def zLL(η:List Ob)(σ:Sl): List (Nat×Operand)->List (Nat×D)->Prop
 |[],[]=>True
 |(i,x)::r,(j,d)::s=>Nat.beq i j=true/\Co η (oval σ x) d/\okc d=true/\zLL η σ r s
 |_,_=>False
theorem zCI{η:List Ob}{σ:Sl}: zLL η σ [] []:=trivial
theorem PD_d{η:List Ob}{σ:Sl}{i:Nat}{x:Operand}{d:D}{r:List (Nat×Operand)}{s:List (Nat×D)}(h:oval σ x=.d d)(ho:okc d=true)(k:zLL η σ r s): zLL η σ ((i,x)::r) ((i,d)::s):=⟨by simp,by rw[h];rfl,ho,k⟩
theorem zJv{η:List Ob}{σ:Sl}{g:Gh}{w:World}{a:Act}(hi:Inv g w η): ∀(ps:List (Nat×Operand)) (ds:List (Nat×D)),(∀p∈ps,RepS g w (a.eval p.2) (oval σ p.2))->zLL η σ ps ds->(ps.map fun p=>(p.1,a.eval p.2)).length=(ds.map fun p=>(p.1,p.2.flat)).length/\
  ∀(j:Nat) p q,(ps.map fun p=>(p.1,a.eval p.2))[j]?=some p->(ds.map fun p=>(p.1,p.2.flat))[j]?=some q->p.1=q.1/\p.2.cells.size=q.2.length/\∀(i:Nat) u s,p.2.cells[i]?=some u->q.2[i]?=some s->RepD g.St w u s/\u.oneCell'=true
 |[],[],_,_=>⟨rfl,fun j p q h=>by simp at h⟩
 |(i,x)::r,(j',d)::s,ho,⟨h1,h2,h3,h4⟩=>by
  obtain⟨e1,e2⟩:=zJv hi r s (fun p hp=>ho p (by simp[hp])) h4
  have hr:=h2.rep hi (ho (i,x) (by simp))
  refine⟨by simpa using e1,fun j p q hp hq=>?_⟩
  cases j with
  |zero =>
   simp at hp hq;subst hp;subst hq
   have hc:=RepS.cells (g:=g) (w:=w) (v:=a.eval x) (s:=.d d) hr (zOA h3)
   refine⟨qAk h1,by simpa using hc.1,fun i u s hu hs=>⟨?_,hc.2.1 u (qBE hu)⟩⟩
   have hs':(d.flat.map SV.d)[i]?=some (.d s):=by rw[qAH];simp only at hs;rw[hs];rfl
   exact hc.2.2 i u (.d s) hu hs'
  |succ j=>exact e2 j p q (by simpa using hp) (by simpa using hq)
 |[],_::_,_,h=>h.elim
 |_::_,[],_,h=>h.elim
section
variable {P:Program}{η:List Ob}{σ:Sl}{dst:Option Nat}{ty:TypeId}{pos:String}{after:Array Edge}{gd:Option (Nat×Bool)}{t:TypeId}{x y:Operand}
theorem zBI{ps:List (Nat×Operand)}{ds:List (Nat×D)}{pl:List (Nat×Nat)}{zs:List Value}{cs:List D}(hpl:zCj P t=some pl)(hz:zBq P t=some zs)(hp:zLL η σ ps ds)(hf:zOw pl (zs.map zdv) (ds.map fun p=>(p.1,p.2.flat))=some cs):
  Ylds P η σ ⟨dst,.build t ps.toArray,ty,pos,after,gd⟩ (.d (.agg cs)):=by
 refine Ylds.same fun g w a hi h=>?_
 obtain⟨e1,e2⟩:=zJv (a:=a) hi ps ds (fun p hp=>h p.2 (by
  simp only[Op.operands,List.mem_toArray,qA5];exact⟨p,hp,rfl⟩)) hp
 obtain⟨cells',r1,r2,r3⟩:=zLo (R:=fun u d=>RepD g.St w u d/\u.oneCell'=true) (cs:=zs.map zdv) hpl hz e1 e2 (by simp) (fun i u s hu hs=>by
  rw[qAH,hu]at hs
  simp at hs;subst hs
  exact⟨zMh _ _ u,(zIB hz).1 u (qAF hu)⟩) hf
 have hall:∀(j:Nat) u,cells'[j]?=some u->u.oneCell'=true:=fun j u hu=>by
  have hj:j<cs.length:=by rw[<-r2];exact(qAt.1 hu).1
  exact(r3 j u _ hu (qAB hj)).2
 refine⟨.agg cells',?_,?_⟩
 ·have:=run_build (P:=P) w t (ps.map fun p=>(p.1,a.eval p.2)).toArray cells' (by simpa using r1)
  simp only[execOp,Sem.run_bind,qBH,this,Result.andThen_ok,Sem.run_pure]
 ·have:=RepD.agg (St:=g.St) (w:=w) cells'.toList cs (by simpa using r2) (fun u hu=>by
   obtain⟨j,hj,rfl⟩:=qBp.1 hu
   exact hall j _ (by rw[Array.getElem_toList];exact qAK _)) (fun j u d hu hd=>(r3 j u d (by simpa using hu) hd).1)
  show RepD _ _ _ _
  simpa using this
end
def zMP(σ:Sl): List (Nat×Operand)->List (Nat×List SV)->Prop
 |[],[]=>True
 |(i,x)::r,(j,cs)::s=>Nat.beq i j=true/\zHw (oval σ x)=some cs/\zMP σ r s
 |_,_=>False
theorem zd6{σ:Sl}: zMP σ [] []:=trivial
theorem zV5{σ:Sl}{i:Nat}{x:Operand}{cs:List SV}{r:List (Nat×Operand)}{s:List (Nat×List SV)}(h:zHw (oval σ x)=some cs)(k:zMP σ r s): zMP σ ((i,x)::r) ((i,cs)::s):=⟨by simp,h,k⟩
theorem zMO{σ:Sl}{g:Gh}{w:World}{a:Act}: ∀(ps:List (Nat×Operand)) (ss:List (Nat×List SV)),(∀p∈ps,RepS g w (a.eval p.2) (oval σ p.2))->zMP σ ps ss->(ps.map fun p=>(p.1,a.eval p.2)).length=ss.length/\
  ∀(j:Nat) p q,(ps.map fun p=>(p.1,a.eval p.2))[j]?=some p->ss[j]?=some q->p.1=q.1/\p.2.cells.size=q.2.length/\∀(i:Nat) u s,p.2.cells[i]?=some u->q.2[i]?=some s->RepS g w u s/\u.oneCell'=true
 |[],[],_,_=>⟨rfl,fun j p q h=>by simp at h⟩
 |(i,x)::r,(j',cs)::s,ho,⟨h1,h2,h4⟩=>by
  obtain⟨e1,e2⟩:=zMO r s (fun p hp=>ho p (by simp[hp])) h4
  have hc:=(ho (i,x) (by simp)).cells h2
  refine⟨by simpa using e1,fun j p q hp hq=>?_⟩
  cases j with
  |zero =>
   simp at hp hq;subst hp;subst hq
   exact⟨qAk h1,hc.1,fun i u s hu hs=>⟨hc.2.2 i u s hu hs,hc.2.1 u (qBE hu)⟩⟩
  |succ j=>exact e2 j p q (by simpa using hp) (by simpa using hq)
 |[],_::_,_,h=>h.elim
 |_::_,[],_,h=>h.elim
section
variable {C:Ctx}{ops:Array Oper}{rest:List Oper}{K:Sl->List Ob->Prop}{σ:Sl}{η:List Ob}{d d2:Nat}{ty ty2:TypeId}{pos pos2:String}{after after2:Array Edge}{t:TypeId}
theorem zVq{ps:List (Nat×Operand)}{ss:List (Nat×List SV)}{pl:List (Nat×Nat)}{zs:List Value}{cs:List SV}(hpl:zCj C.P t=some pl)(hz:zBq C.P t=some zs)(hp:zMP σ ps ss)(hf:zOw pl (zs.map cst) ss=some cs)
  (hd:Nat.blt d C.N=true) (hd2:Nat.blt d2 C.N=true) (hro:Nat.ble C.ro η.length=true) (h:alex C false ops rest K ((d2,.ptr η.length 0)::(d,.top)::σ) (η++[.bx none (some t) cs])) :
  alex C false ops (⟨some d,.build t ps.toArray,ty,pos,after,none⟩ :: ⟨some d2,.box t (.tmp d),ty2,pos2,after2,none⟩::rest) K σ η:=by
 refine w0 ?_
 intro Q hQ a w ⟨g,ha⟩ K' hK'
 obtain⟨e1,e2⟩:=zMO (g:=g) (w:=w) (a:=a) ps ss (fun p _=>ha.eval p.2) hp
 obtain⟨cells',r1,r2,r3⟩:=zLo (R:=fun u s=>RepS g w u s/\u.oneCell'=true) (cs:=zs.map cst) hpl hz e1 e2 (by simp) (fun i u s hu hs=>by
  rw[qAH,hu]at hs
  simp at hs;subst hs
  exact⟨RepS.cst _ _ u,(zIB hz).1 u (qAF hu)⟩) hf
 have hall:∀u∈cells',u.oneCell'=true:=fun u hu=>by
  obtain⟨j,hj,rfl⟩:=Array.mem_iff_getElem.1 hu
  have hjc:j<cs.length:=by rw[<-r2];exact hj
  exact(r3 j _ _ (qAK hj) (qAB hjc)).2
 have hrun:(execOp a.eval ⟨some d,.build t ps.toArray,ty,pos,after,none⟩).run C.P w=.ok (.value (.agg cells')) w:=by
  have:=run_build (P:=C.P) w t (ps.map fun p=>(p.1,a.eval p.2)).toArray cells' (by simpa using r1)
  simp only[execOp,Sem.run_bind,qBH,this,Result.andThen_ok,Sem.run_pure]
 unfold Oper.wp
 rw[hrun]
 refine hK' _ _ ?_
 have ha1:=ha.put (d:=some d) (v:=.agg cells') (s:=.top) hd trivial
 have hev:(a.put (some d) (.agg cells')).eval (.tmp d)=.agg cells':=by
  have hlt:d<a.tmps.size:=by rw[ha.size];simpa[Nat.blt_eq]using hd
  simp[Act.eval,Act.put,hlt]
 refine wpList_step fun K2 hK2=>?_
 rw[if_pos (show Region.wanted ⟨some d2,.box t (.tmp d),ty2,pos2,after2,none⟩ _=true from rfl)]
 unfold Oper.wp
 have hrun2:(execOp (a.put (some d) (.agg cells')).eval ⟨some d2,.box t (.tmp d),ty2,pos2,after2,none⟩).run C.P w=.ok (.value (.pointer (some ⟨w.heap.size,0,none⟩))) (w.alloc (.cells cells' t)):=by
  simp only[execOp,hev]
  simp[Instr.box,newVar,newRow,Value.cells]
 rw[hrun2]
 exact hK2 _ _ (h Q hQ _ _ (zVn (some t) ha1 t (fun _ h=>(qBA h).symm) cells' cs hd2 (qAO hro) r2 hall (fun j u s hu hs=>(r3 j u s hu hs).1)))
end
theorem zOu{sz o:Nat}{cs:List D}{c:D}: ∀{xs:List D} {i:Nat},(∀x∈xs,x.flat.length=sz)->xs[i]?=some (.agg cs)->o<cs.length->zCM (xs.set i (.agg (cs.set o c)))=(zCM xs).set (i*sz+o) c
 |x::r,0,_,hi,ho=>by
  simp at hi;subst hi
  simp only[zCM,qBo,qAf,D.flat,Nat.zero_mul,qAY]
  rw[List.set_append,if_pos ho]
 |x::r,i+1,hf,hi,ho=>by
  have h1:=hf x (by simp)
  have ih:=zOu (sz:=sz) (o:=o) (c:=c) (xs:=r) (i:=i) (fun y hy=>hf y (by simp[hy])) (by simpa using hi) ho
  simp only[zCM,List.set_cons_succ,qAf]at ih ⊢
  rw[ih,List.set_append,if_neg (by rw[h1,qAx];omega),h1]
  rw[show (i+1)*sz+o-sz=i*sz+o by rw[qAx];omega]
 |[],_,_,hi,_=>by simp at hi
section
variable {C:Ctx}{ops:Array Oper}{rest:List Oper}{K:Sl->List Ob->Prop}{σ:Sl}{η:List Ob}{d:Nat}{ty:TypeId}{pos:String}{after:Array Edge}{gd:Option (Nat×Bool)}{t:TypeId}{x y:Operand}
theorem zRg{id i o n e sz:Nat}{xs:List D}{cs:List D}{c:D}(hx:oval σ x=.bptr id i o)(hy:oval σ y=.d c)(hc:one (.d c)=true)(ht:zBD C.P t=some (false,n))(hn:Nat.beq n 1=true)(ho:η[id]?=some (.buf true e sz xs))(hi:xs[i]?=some (.agg cs))(hol:Nat.blt o cs.length=true)(hro:Nat.ble C.ro id=true)
  (h:alex C false ops rest K σ (η.set id (.buf true e sz (xs.set i (.agg (cs.set o c)))))):zA2 C false ops ⟨none,.store t x y,ty,pos,after,gd⟩ rest K σ η:=by
 have hn:=qAk hn
 subst hn
 have hol:o<cs.length:=by simpa using hol
 refine zOx (fun g a w ha=>?_) h
 have hp:=ha.eval x;rw[hx]at hp
 have hr:=ha.eval y;rw[hy]at hr
 obtain⟨hid,b,hb,hpv⟩:=hp
 obtain⟨o1,o2,o3,o4,o5⟩:=ha.inv.ob id _ ho
 have hil:i<xs.length:=(qAA.1 hi).1
 have hcl:cs.length=sz:=o2 _ (qAF hi)
 rcases o5 with⟨h1,_⟩|⟨b',us,h1,h2,h3,h4,h5,h6⟩
 ·rw[h1]at hb;cases hb
 ·rw[hb]at h1;injection h1 with h1;subst h1
  obtain⟨c1,c2⟩:=RepS.one (g:=g) (w:=w) (s:=.d c) hr hc
  have hpos:i*sz+o<xs.length*sz:=by
   have:=qAh sz (show i+1<=xs.length by omega)
   rw[qAx]at this;omega
  have hcap:xs.length*sz<=us.size:=by rw[h3];exact qAh _ o4
  have hst:=run_storeCells_at C.P b (i*sz+o) e [a.eval y] 0 us w h2 (by simp;omega) (fun v hv=>by simp at hv;subst hv;exact c2)
  simp only[qA6,qAz]at hst
  have hus:(us.toList.take (i*sz+o)++[a.eval y]++us.toList.drop (i*sz+o+1)).toArray=us.setIfInBounds (i*sz+o) (a.eval y):=by
   apply Array.ext'
   rw[Array.toList_setIfInBounds,qBd,if_pos (by rw[qAT];omega)]
   simp
  rw[hus]at hst
  have hfl:=zOu (c:=c) o2 hi hol
  have hset:∀x∈xs.set i (.agg (cs.set o c)),x.flat.length=sz:=fun x hx=>by
   rcases qBZ hx with h|h
   ·exact o2 x h
   ·rw[h];simp[D.flat,hcl]
  refine⟨_,?_,g,ha.writeBuf (us':=us.setIfInBounds (i*sz+o) (a.eval y)) ho (qAO hro) hb h2 (fun o hc=>by have:=(h6 o).1 hc;cases this.1) hset (by rw[qAZ];exact o4) (by simp) h3 (fun j u hj hu=>?_) (fun j u d' hu hd'=>?_)⟩
  ·rw[o1]at hpv
   simp only[execOp,hpv,Instr.storeAt,Instr.sureAddr,storeVar,Sem.run_bind,Sem.run_pure,Result.andThen_ok,(zB8 ht w).2,c1,ne_eq]
   simp[hst]
  ·rw[qAZ]at hj
   rw[Array.getElem?_setIfInBounds]at hu
   split at hu
   ·split at hu
    ·injection hu with hu;subst hu;exact c2
    ·cases hu
   ·exact h4 j u hj hu
  ·rw[hfl,qAX]at hd'
   rw[Array.getElem?_setIfInBounds]at hu
   split at hu
   ·rename_i hj
    subst hj
    rw[if_pos (by omega)]at hu
    injection hu with hu;subst hu
    rw[if_pos rfl,if_pos (by rw[zB9 o2];omega)]at hd'
    injection hd' with hd';subst hd';exact hr
   ·rename_i hj
    rw[if_neg hj]at hd'
    exact h5 j u d' hu hd'
variable {P:Program}{dst:Option Nat}{yt:TypeId}
theorem zRn{xs:List D}(hx:oval σ x=.d (.slice xs))(hy:oval σ y=.nil)(hne:xs≠[])(hu:(zBb P t).isSome=true): Ylds P η σ ⟨dst,.binOp .eql t x y yt,ty,pos,after,gd⟩ (.d (.val (.bool false))):=by
 obtain⟨e,he⟩:=qBB.1 hu
 refine Ylds.same fun g w a hi h=>⟨.bool false,?_,.val _⟩
 have h1:=h x (by simp[Op.operands]);rw[hx]at h1
 have h2:=h y (by simp[Op.operands]);rw[hy]at h2
 change RepD _ _ _ _ at h1
 change _=_ at h2
 generalize hv:a.eval x=v at h1
 cases h1 with
 |slice ad len cap sz _ us hlen hcap hm hsz hus hone hcell =>
  obtain⟨ad',rfl,_⟩:=hcell (qA3.2 hne)
  have hg:(eqGuard .eql t x y (.slice (some ad') len cap) (.slice none 0 0)).run P w=.ok () w:=by first|rfl|simp[eqGuard]|simp[go_sem]
  have hq:(binOp .eql t (.slice (some ad') len cap) (.slice none 0 0)).run P w=.ok (.bool false) w:=by
   have:=run_equal_slice_nil (P:=P) (w:=w) t e (some ad') len cap (zCE he)
   simp[go_sem,binOp,this]
  simp only[execOp,hv,h2,Sem.run_bind,hg,hq,Result.andThen_ok,Sem.run_pure]
end

open Go.Lib
section
variable {P:Program}{η:List Ob}{σ:Sl}{dst:Option Nat}{ty:TypeId}{pos:String}{after:Array Edge}{gd:Option (Nat×Bool)}{t yt:TypeId}{x y:Operand}
end
section
variable {C:Ctx}{σ:Sl}{η:List Ob}
end
section
variable {κ:Type}[DecidableEq κ]{enc:κ->Value}
end
section
variable {P:Program}{η:List Ob}{σ:Sl}{dst:Option Nat}{ty:TypeId}{pos:String}{after:Array Edge}{gd:Option (Nat×Bool)}{t:TypeId}{x y:Operand}
end
section
variable {C:Ctx}{ops:Array Oper}{rest:List Oper}{K:Sl->List Ob->Prop}{σ:Sl}{η:List Ob}{d:Nat}{ty:TypeId}{pos:String}{after:Array Edge}{gd:Option (Nat×Bool)}{t:TypeId}{x y z:Operand}
section
variable {κ:Type}[DecidableEq κ]{enc:κ->Value}
end
section
variable {κ:Type}[DecidableEq κ]{enc:κ->Value}
end
end
end Go.Sx
namespace Go.Sx
open Go.RowKit
def segG(C:Ctx)(l:List Oper)(η:List Ob)(e:Nat)(η':List Ob)(F:SV->SV)(T:Sl->Sl): Nat->List Oper->List SV->Sl->Prop
 |j,o::r,s::ss,σ=>(j=e\/((Wants l.toArray σ o.guard true/\Ylds C.P η σ o s)/\zEg C.N o.dst/\(o.after.toList.all fun ed=>!Region.binds .any ed || !Nat.beq ed.on e)=true/\
   (zGX l.toArray l.length e j=true\/(o.guard=none/\F s=s/\Ylds C.P η' (T σ) o s))))/\segG C l η e η' F T (j+1) r ss (put σ o.dst s)
 |_,_,_,_=>True
theorem zTr{C:Ctx}{l:List Oper}{η:List Ob}{e:Nat}{η':List Ob}{F:SV->SV}{T:Sl->Sl}(hT:∀τ t,get (T τ) t=F (get τ t)): ∀(r:List Oper) (ss:List SV) (j:Nat) (σ:Sl),segG C l η e η' F T j r ss σ->∀(i:Nat) o s,r[i]?=some o->ss[i]?=some s->
  j+i=e\/((Wants l.toArray (pst σ j r ss (fun m=>decide (m<j+i))) o.guard true/\Ylds C.P η (pst σ j r ss (fun m=>decide (m<j+i))) o s)/\zEg C.N o.dst/\(o.after.toList.all fun ed=>!Region.binds .any ed || !Nat.beq ed.on e)=true/\
   (zGX l.toArray l.length e (j+i)=true\/(o.guard=none/\F s=s/\Ylds C.P η' (T (pst σ j r ss (fun m=>decide (m<j+i)))) o s)))
 |_,[],_,_,_,i,o,s,_,hs=>by simp at hs
 |[],_::_,_,_,_,i,o,s,ho,_=>by simp at ho
 |o::r,s::ss,j,σ,h,0,o',s',ho,hs=>by
  simp at ho hs;subst ho;subst hs
  have e0:∀t,get (pst σ j (o::r) (s::ss) (fun m=>decide (m<j+0))) t=get σ t:=by
   intro t
   have:=zCW t (o::r) (s::ss) σ σ j (fun m=>decide (m<j+0)) (fun _=>false) rfl (fun i o' hi hne=>by simp at hne)
   rw[this,zD4]
  rcases h.1 with h1|⟨⟨h1,h2⟩,h3,h4,h5⟩
  ·exact .inl h1
  ·refine .inr ⟨⟨?_,h2.congr fun x _=>zDP (fun t=>(e0 t)) x⟩,h3,h4,?_⟩
   ·revert h1
    unfold Wants
    cases o.guard with
    |none=>exact id
    |some q =>
     rintro⟨t,h1,h2⟩
     exact⟨t,h1,by rw[e0];exact h2⟩
   ·rcases h5 with h5|⟨h5,h6,h7⟩
    ·exact .inl h5
    ·exact .inr ⟨h5,h6,h7.congr fun x _=>zDP (fun t=>by rw[hT,hT,e0]) x⟩
 |o::r,s::ss,j,σ,h,i+1,o',s',ho,hs=>by
  have:=zTr hT r ss (j+1) _ h.2 i o' s' (by simpa using ho) (by simpa using hs)
  have hj:j+(i+1)=j+1+i:=by omega
  have hd:decide (j<j+1+i)=true:=by simp;omega
  simp only[pst,hj,hd]
  exact this
theorem zO8{C:Ctx}{Q:Exit->Sl->List Ob->Prop}{σ:Sl}{η:List Ob}{id:Nat}{l:List Oper}(ss:List SV)(e:Nat){oe:Oper}{dE:Nat}{rs:SV}(F:SV->SV)(T:Sl->Sl)(η':List Ob)
  (hm:C.P.follows .mixedOrders=true) (hB:zGQ l=true) (hle:l[e]?=some oe) (hdE:oe.dst=some dE) (hge:oe.guard=none) (hes:Nat.blt e ss.length=true) (hsl:Nat.ble ss.length l.length=true)
  (hbar:ss.length=l.length\/zIc l.toArray (l.length-ss.length-1)=true) (hT:∀τ t,get (T τ) t=F (get τ t)) (hs:segG C l η e η' F T 0 l ss σ)
  (hE:∀τ,(∀t,t∈oe.looksAt l.toArray->get τ t=get (pst σ 0 l ss (fun m=>decide (m<e))) t)->EStep C oe (fun σ' η''=>σ'=(dE,rs)::T τ/\η''=η') τ η)
  (h:alex C true l.toArray (l.drop ss.length) (Q .normal) ((dE,rs)::T (segσ l (ss.map .y) σ)) η'):awp C (.region id l.toArray true) Q σ η:=by
 intro R hR a w ⟨g,hg⟩
 have hes:=Nat.blt_eq.mp hes
 have hsl:=qAO hsl
 have hd0:Abs C σ η a { w with drawn:=w.drawn+1 }:=⟨g,hg.grow ⟨rfl,rfl,rfl,rfl,rfl,rfl,rfl,qAP _,fun _ _=>rfl,fun _ _ h=>h,fun _ _ h=>.inl h,hg.inv.st⟩⟩
 have hsv:(ss.map SegK.y).map SegK.sv=ss:=by rw[qBt];exact List.map_id ss
 have hat:=zTr hT l ss 0 σ hs
 have spec:=zGP hB
 let I:(Nat->Bool)->Act->World->Prop:=fun f a w=>match f e with
  |true=>Abs C ((dE,rs)::T (pst σ 0 l ss f)) η' a w
  |false=>Abs C (pst σ 0 l ss f) η a w
 refine wp_region_any hm (zMF (C:=C) (K:=Q .normal) (fun σ' η' a w hk hab=>hR _ _ _ _ _ hk hab) hB ss.length hsl hbar I ?_ ?_ _ _ a _ (by simp) ?_ ?_ (fun i _ hi=>?_) ?_)
 ·intro f a w hf hI
  refine⟨_,_,h,?_⟩
  have he:=hf e hes
  simp only[I,he]at hI
  have:=zJH l (ss.map .y) 0 σ f (fun i hi=>by rw[qAY];exact hf i (by simp at hi;omega))
  rw[hsv]at this
  rw[this]at hI;exact hI
 ·intro f j o a w hjm hlj hun hcl hdep hI
  obtain⟨s,hsj⟩:∃s,ss[j]?=some s:=⟨_,qAB hjm⟩
  have same:=zIN (σ:=σ) (ss:=ss) hB hlj hun hcl hdep
  have next:=zIO (σ:=σ) hB hlj hsj hun hcl
  by_cases hje:j=e
  ·
   subst hje
   rw[hle]at hlj;injection hlj with hlj;subst hlj
   simp only[I,hun]at hI
   refine .inl ⟨by unfold Region.wanted;rw[hge],?_⟩
   refine Oper.wp_mono ?_ (hE _ same _ a w hI)
   rintro a' w' ⟨σ',η'',⟨rfl,rfl⟩,hab⟩
   have hbeq:(j==j)=true:=by simp
   simp only[I,hbeq,Bool.true_or]
   refine hab.le fun t=>.inl ?_
   have hn2:=next t
   rw[hdE]at hn2
   simp only[put,zBx]at hn2 ⊢
   by_cases h5:dE=t
   ·rw[if_pos h5,if_pos h5]
   ·rw[if_neg h5]at hn2 ⊢
    rw[if_neg h5,hT,hT,hn2]
  ·
   rcases hat j o s hlj hsj with h0|⟨⟨hw,hy⟩,hdst,hind,hfl⟩
   ·omega
   rw[qAY]at hw hy hfl
   have hne:(e==j)=false:=by simp;omega
   cases he:f e with
   |false =>
    simp only[I,he]at hI
    obtain⟨g,h1⟩:=hI
    have hI':∀a' w',Abs C (put (pst σ 0 l ss f) o.dst s) η a' w'->I (fun i=>i==j||f i) a' w':=fun a' w' hab=>by
     simp only[I,hne,he,Bool.or_false];exact hab.le fun t=>.inl (next t).symm
    refine .inl ⟨hw.wanted (g:=g) (w:=w) fun t q b hgd ht=>by rw[<-same t (zFI hgd ht)];exact h1.rep t,?_⟩
    have hy':Ylds C.P η (pst σ 0 l ss f) o s:=hy.congr fun x hx=>by
     cases x with
     |tmp t=>exact same t (zBv hx)
     |_=>rfl
    exact hy'.wp hdst hI' h1
   |true =>
    simp only[I,he]at hI
    obtain⟨g,h1⟩:=hI
    have hcl':∀j o,l.toArray[j]?=some o->f j=true->∀e∈o.after,Region.binds .any e=true->f e.on=true:=fun j o ho=>hcl j o (by simpa using ho)
    have hnr:zGX l.toArray l.length e j=false:=by
     cases hr:zGX l.toArray l.length e j with
     |false=>rfl
     |true =>
      have:=zCv hcl' l.length e _ (by simpa using hle) (fun e' hm hb=>hcl _ _ hle he e' hm hb) hr
      rw[hun]at this;cases this
    rcases hfl with h2|⟨h2,h3,h4⟩
    ·rw[hnr]at h2;cases h2
    ·
     have hap:(∀d,o.dst=some d->d≠dE)/\∀t,t∈o.looksAt l.toArray->dE≠t:=by
      rcases qAR j e with hj|hj
      ·rcases(spec e _ hle).2.2 j o hj hlj with⟨ed,hm,hb,hon⟩|hap
       ·have:=hcl _ _ hle he ed hm hb
        rw[hon,hun]at this;cases this
       ·obtain⟨p1,p2,p3⟩:=Oper.apart_spec hap
        exact⟨fun d hd hq=>p2 d hd (by rw[hdE,hq]),fun t ht hq=>p3 dE hdE (by rw[hq];exact ht)⟩
      ·rcases(spec j _ hlj).2.2 e oe (by omega) hle with⟨ed,hm,hb,hon⟩|hap
       ·have:=qAb.1 hind ed (by simpa using hm)
        rw[hb,hon]at this
        simp at this
       ·obtain⟨p1,p2,p3⟩:=Oper.apart_spec hap
        exact⟨fun d hd hq=>p2 dE hdE (by rw[hd,hq]),fun t ht hq=>p1 dE hdE (by rw[hq];exact ht)⟩
     have same':∀t,t∈o.looksAt l.toArray->get ((dE,rs)::T (pst σ 0 l ss f)) t=get (T (pst σ 0 l ss (fun m=>decide (m<j)))) t:=fun t ht=>by
      rw[zBx,if_neg (hap.2 t ht),hT,hT,same t ht]
     refine .inl ⟨by unfold Region.wanted;rw[h2],?_⟩
     have hy':Ylds C.P η' ((dE,rs)::T (pst σ 0 l ss f)) o s:=h4.congr fun x hx=>by
      cases x with
      |tmp t=>exact same' t (zBv hx)
      |_=>rfl
     refine hy'.wp hdst (fun a' w' hab=>?_) h1
     simp only[I,hne,he,Bool.or_true]
     refine hab.le fun t=>.inl ?_
     have hn2:=next t
     cases hdd:o.dst with
     |none =>
      rw[hdd]at hn2
      simp only[put,zBx]at hn2 ⊢
      split
      ·rfl
      ·rw[hT,hT,hn2]
     |some d =>
      have hne2:d≠dE:=hap.1 d hdd
      rw[hdd]at hn2
      simp only[put,zBx]at hn2 ⊢
      by_cases h5:dE=t
      ·subst h5;rw[if_pos rfl,if_neg hne2,if_pos rfl]
      ·rw[if_neg h5,hT,<-hn2]
       by_cases h6:d=t
       ·rw[if_pos h6,if_pos h6,h3]
       ·rw[if_neg h6,if_neg h6,if_neg h5,hT]
 ·refine qAu (qBD _ _) (by simp)
 ·intro j o hj hl
  have hjl:j<l.length:=(qAA.1 hj).1
  rw[qAL,qAK (by simpa using hjl)]at hl
  simp at hl
 ·rw[qAL,qAK (by simpa using hi)]
  simp
 ·have hf0:∀i,i<l.length->(Array.replicate l.toArray.size false).getD i true=false:=fun i hi=>by
   rw[qAL,qAK (by simpa using hi)];simp
  simp only[I,hf0 _ (qAa hes hsl)]
  refine hd0.le fun t=>.inl ?_
  rw[zCW t l ss σ σ 0 _ (fun _=>false) rfl (fun i o hi hne=>?_),zD4]
  rw[qAY,hf0 i (qAA.1 hi).1]at hne
  exact absurd rfl hne
theorem EStep.of{C:Ctx}{ops:Array Oper}{o:Oper}{J:Sl->List Ob->Prop}{σ:Sl}{η:List Ob}(h:zA2 C false ops o [] J σ η): EStep C o J σ η:=fun Q a w hab=>by
 have:=h (fun e a w=>match e with | .normal=>∃σ' η',J σ' η'/\Abs C σ' η' a w|e=>Q e a w) (fun σ' η' a w hk hab=>⟨σ',η',hk,hab⟩) a w hab (fun a w=>∃σ' η',J σ' η'/\Abs C σ' η' a w) (fun a w hw=>hw)
 exact zQP (fun e a w hne hq=>by cases e <;> first|exact absurd rfl hne|exact hq) this
theorem zLs{C:Ctx}{Q:Exit->Sl->List Ob->Prop}{σ:Sl}{η:List Ob}{rid:Nat}{l:List Oper}(ss:List SV)(i:Nat){x y:Operand}{t:TypeId}{d:Nat}{ty:TypeId}{pos:String}{after:Array Edge}(id:Nat){n m e sz by':Nat}{mu:Bool}{xs ys:List D}
  (hmx:C.P.follows .mixedOrders=true) (hB:zGQ l=true) (hle:l[i]?=some ⟨some d,.call ⟨.builtin .append, #[x,y], #[t,t]⟩,ty,pos,after,none⟩) (hes:Nat.blt i ss.length=true) (hsl:Nat.ble ss.length l.length=true)
  (hbar:ss.length=l.length\/zIc l.toArray (l.length-ss.length-1)=true)
  (hs:segG C l η i ((zGM id η).set id (.buf mu e sz (xs++ys))) (SV.kill id) (zGY id) 0 l ss σ)
  (hx:oval (pst σ 0 l ss (fun m=>decide (m<i))) x=.buf id n) (ho:η[id]?=some (.buf mu e sz xs)) (hy:oval (pst σ 0 l ss (fun m=>decide (m<i))) y=.d (.slice ys)) (hn:n=xs.length) (hm:m=ys.length)
  (he:zBb C.P t=some e) (hsz:zA3 C.P t=some sz) (hz:zC6 C.P e=some sz) (hb:zCX C.P t=some by') (hd:Nat.blt d C.N=true) (hro:Nat.ble C.ro id=true) (hf:∀d∈ys,d.flat.length=sz) (hlen:(n+m)*by'<=140737488355328/\n+m<=140737488355328)
  (h:alex C true l.toArray (l.drop ss.length) (Q .normal) ((d,.buf id (n+m))::zGY id (segσ l (ss.map .y) σ)) ((zGM id η).set id (.buf mu e sz (xs++ys)))):awp C (.region rid l.toArray true) Q σ η:=by
 refine zO8 ss i (SV.kill id) (zGY id) _ hmx hB hle rfl rfl hes hsl hbar (zGi id) hs (fun τ hτ=>?_) h
 have op:∀z,z=x\/z=y->oval τ z=oval (pst σ 0 l ss (fun m=>decide (m<i))) z:=fun z hz=>by
  cases z with
  |tmp t=>exact hτ t (zBv (by simp[Op.operands,Call.operands];rcases hz with h|h <;> simp[h]))
  |_=>rfl
 exact EStep.of (ops:=#[]) (aApp (id:=id) ((op x (.inl rfl)).trans hx) ho (zA0 ((op y (.inr rfl)).trans hy)) hn hm he hsz hz hb hd hro hf hlen (zAB ⟨rfl,rfl⟩))
section
variable {P:Program}{η:List Ob}{σ:Sl}{dst:Option Nat}{ty:TypeId}{pos:String}{after:Array Edge}{gd:Option (Nat×Bool)}{t:TypeId}{x y z:Operand}
theorem zLy{a b:SV}(h:oval σ x=.pair a b): Ylds P η σ ⟨dst,.move x,ty,pos,after,gd⟩ (.pair a b):=zGp (.inl rfl) h
theorem zZM{yt:TypeId}{a b:List UInt8}(hx:oval σ x=.d (str a))(hy:oval σ y=.d (str b))(h:a=b): Ylds P η σ ⟨dst,.binOp .eql t x y yt,ty,pos,after,gd⟩ (.d (.val (.bool true))):=by
 have:=zS4 (P:=P) (η:=η) (dst:=dst) (ty:=ty) (pos:=pos) (after:=after) (gd:=gd) (t:=t) (yt:=yt) hx hy;rwa [decide_eq_true h]at this
theorem zZN{yt:TypeId}{a b:List UInt8}(hx:oval σ x=.d (str a))(hy:oval σ y=.d (str b))(h:¬a=b): Ylds P η σ ⟨dst,.binOp .eql t x y yt,ty,pos,after,gd⟩ (.d (.val (.bool false))):=by
 have:=zS4 (P:=P) (η:=η) (dst:=dst) (ty:=ty) (pos:=pos) (after:=after) (gd:=gd) (t:=t) (yt:=yt) hx hy;rwa [decide_eq_false h]at this
theorem zd0{e sz by':Nat}{xs ys:List D}(hx:oval σ x=.d (.tsl xs))(hy:Co η (oval σ y) (.slice ys))(h0:Nat.blt 0 ys.length=true)
  (he:zBb P t=some e) (hs:zA3 P t=some sz) (hz:zC6 P e=some sz) (hb:zCX P t=some by') (hfx:∀d∈xs,d.flat.length=sz) (hf:∀d∈ys,d.flat.length=sz) (hlen:(xs.length+ys.length)*by'<=140737488355328/\xs.length+ys.length<=140737488355328) :
  Ylds P η σ ⟨dst,.call ⟨.builtin .append, #[x,y], #[t,t]⟩,ty,pos,after,gd⟩ (.d (.slice (xs++ys))):=by
 have h0:0<ys.length:=by simpa using h0
 obtain⟨e',i,hu,hi',hsz⟩:=zBL hs
 have:e'=e:=by have:=zCE he;rw[hu]at this;injection this with this;injection this
 subst this
 have hby:i.bytes=by':=by
  obtain⟨e2,i2,h1,h2,h3⟩:=zDh hb
  rw[hu]at h1;injection h1 with h1;injection h1 with h1;subst h1
  rw[hi']at h2;injection h2 with h2;subst h2;exact h3
 obtain⟨zv,hzz,hzs⟩:=zGZ hi' hz
 intro g w a hi h
 have hxr:=h x (by simp[Op.operands,Call.operands]);rw[hx]at hxr
 obtain⟨sa,hxv,hxr⟩:∃sa,a.eval x=.slice sa xs.length xs.length/\RepD g.St w (.slice sa xs.length xs.length) (.slice xs):=by
  change RepD _ _ _ _ at hxr
  generalize a.eval x=v at hxr
  cases hxr with
  |tsl sa n xs h =>
   have:n=xs.length:=by cases h;assumption
   subst this;exact⟨sa,rfl,h⟩
 obtain⟨sa',cap',olds,hv',_,_,hol,ho1,hocell,horep⟩:=hxr.open_slice hfx
 injection hv' with hv1 hv2 hv3;subst hv1;subst hv3
 have hyr:=(hy.rep hi (h y (by simp[Op.operands,Call.operands]))).open_slice hf
 obtain⟨ya,yc,news,hyv,_,_,hnl,hn1,hncell,hnrep⟩:=hyr
 obtain⟨ad,rfl,hnc⟩:=hncell h0
 have hsrc:Src P i.size t (.slice (some ad) ys.length yc) ys.length news w:=Src.ofSlice w hu ad ys.length yc news (by rw[hnl,hsz]) (fun j u hj=>(hnc j u hj).2) hn1
 have hold:(Builtin.firstCells i.size xs.length (.slice sa xs.length xs.length)).run P w.drew=.ok olds.toArray w.drew:=by
  rcases Nat.eq_zero_or_pos xs.length with hz0|hz0
  ·have hon:olds=[]:=qAq (by rw[hol,hz0];simp)
   rw[hz0,hon]
   cases sa with
   |none=>exact run_firstCells_none w.drew i.size 0 0 0
   |some b=>exact run_firstCells_some w.drew i.size 0 b 0 0 [] (by simp) (fun j u hj=>by simp at hj)
  ·obtain⟨b,rfl,hbc⟩:=hocell hz0
   exact run_firstCells_some w.drew i.size xs.length b xs.length xs.length olds (by rw[hol,hsz]) (fun j u hj=>by simpa using(hbc j u hj).2)
 have hfit:Builtin.nextslicecap (xs.length+ys.length) xs.length*i.bytes<=281474976710656:=growslice_fits (by omega) (by rw[hby];exact hlen.1)
 have hrun:=run_append_grow_src (P:=P) w t t ty e' i zv hu hi' hzz sa xs.length xs.length olds hold _ _ _ hsrc (by omega) (by omega) hfit
 generalize hcells:(olds++news).toArray++Builtin.zeroCells zv.cells (grownCap w (xs.length+ys.length) xs.length e'-(xs.length+ys.length))=us' at hrun
 have hge:=grownCap_ge w (xs.length+ys.length) xs.length e'
 have hcm:=grownCap_le_maxLen w (xs.length+ys.length) xs.length e' (by simp only[maxLen];omega)
 have hat:∀j,j<(xs.length+ys.length)*sz->us'[j]?=(olds++news)[j]?:=fun j hj=>by
  rw[<-hcells,qAs (by simp only[qBT,qAE,hol,hnl];rw[<-qAx];exact hj)];simp
 have hcell:∀(j:Nat) (u:Value),(olds++news)[j]?=some u->(w.drew.alloc (.cells us' e')).cell? ⟨w.heap.size,j,none⟩=some u:=fun j u hj=>by
  have hjl:=(qAA.1 hj).1
  rw[qAE,hol,hnl,<-qAx]at hjl
  rw[cell_of_row _ w.heap.size j us' e' (0,0) (_root_.Go.heap_alloc_new w.drew _),hat j hjl];exact hj
 let g':Gh:={ g with St:=fun b o=>g.St b o\/(b=w.heap.size/\o<(xs.length+ys.length)*sz) }
 have hh:∀k,k<w.heap.size->(w.drew.alloc (.cells us' e')).heap[k]?=w.heap[k]?:=fun k hk=>Below.heap_alloc w.drew _ k hk
 have kp:Keep g.St w g'.St (w.drew.alloc (.cells us' e')):=⟨fun _ _ h=>.inl h,fun b o u hb hc=>(World.cell?_of_block (w:=w) (a:=⟨b,o,none⟩) (hh b (hi.st b o hb))).trans hc,fun b hb=>hh b (hi.st b 0 (hb 0))⟩
 refine .inl ⟨.slice (some ⟨w.heap.size,0,none⟩) (xs.length+ys.length) (grownCap w (xs.length+ys.length) xs.length e'),g',w.drew.alloc (.cells us' e'),?_,⟨rfl,rfl,rfl,rfl,rfl,rfl,rfl,by simp,hh,fun _ _ h=>.inl h,fun b o hb=>hb.imp_right fun h=>by rw[h.1];exact qAP _,fun b o hb=>?_⟩,?_⟩
 ·simp only[execOp,resolve,invoke,builtin,Sem.run_bind,Sem.run_pure,Result.andThen_ok,qBH,qAr,qBf,hxv,hyv,hrun]
 ·rcases hb with hb|⟨rfl,_⟩
  ·exact qAa (hi.st b o hb) (by simp)
  ·simp
 ·refine .slice _ _ _ sz _ (olds++news) (by rw[qAE]) hge hcm (fun d hd=>?_) (by rw[zEE,qAE,qAE,zB9 hfx,zB9 hf,hol,hnl]) (fun u hm=>?_) (fun _=>⟨_,rfl,fun j u hj=>⟨?_,?_⟩⟩) (fun j u d hj hd=>?_)
  ·rcases qAc.1 hd with h|h
   ·exact hfx d h
   ·exact hf d h
  ·rcases qAc.1 hm with h|h
   ·exact ho1 u h
   ·exact hn1 u h
  ·have hjl:=(qAA.1 hj).1
   rw[qAE,hol,hnl,<-qAx]at hjl
   exact .inr ⟨rfl,by simpa using hjl⟩
  ·rw[Addr.add_lit,qAY];exact hcell j u hj
  ·rw[zEE]at hd
   refine RepD.keep kp ?_
   rcases qAR j olds.length with h1|h1
   ·rw[qAI h1]at hj
    rw[qAI (by rw[zB9 hfx,<-hol];exact h1)]at hd
    exact horep j u d hj hd
   ·rw[qAJ h1]at hj
    rw[qAJ (by rw[zB9 hfx,<-hol];exact h1)]at hd
    rw[zB9 hfx,<-hol]at hd
    exact hnrep _ u d hj hd
end
def lowC(l:List Oper)(es:List Nat)(j:Nat): Nat:=(es.filter fun e=>zGX l.toArray l.length j e).length
def zMZ(l:List Oper): List Nat->Bool
 |[]=>true
 |e::r=>(r.all fun k=>Nat.blt e k&&zGX l.toArray l.length k e)&&zMZ l r
def idxC: List Nat->Nat->Option Nat
 |[],_=>none
 |e::r,j=>match Nat.beq e j with
  |true=>some 0
  |false=>(idxC r j).map (· + 1)
def YAll(C:Ctx)(σ:Sl)(o:Oper)(s:SV): List (List Ob)->Prop
 |[]=>True
 |η::r=>Ylds C.P η σ o s/\YAll C σ o s r
theorem YAll.get{C:Ctx}{σ:Sl}{o:Oper}{s:SV}: ∀{L:List (List Ob)},YAll C σ o s L->∀(i:Nat) (η:List Ob),L[i]?=some η->Ylds C.P η σ o s
 |_::_,h,0,η,hi=>by simp at hi;subst hi;exact h.1
 |_::_,h,i+1,η,hi=>YAll.get h.2 i η (by simpa using hi)
 |[],_,i,η,hi=>by simp at hi
theorem zLV: ∀(es:List Nat) (j i:Nat),idxC es j=some i->es[i]?=some j
 |e::r,j,i,h=>by
  unfold idxC at h
  split at h
  ·rename_i he;injection h with h;subst h;rw[qAk he];rfl
  ·cases hq:idxC r j with
   |none=>rw[hq]at h;cases h
   |some k =>
    rw[hq]at h;injection h with h;subst h
    exact(List.getElem?_cons_succ).trans (zLV r j k hq)
 |[],_,_,h=>by cases h
theorem zLW: ∀{es:List Nat} {j:Nat},idxC es j=none->j∉es
 |e::r,j,h=>by
  unfold idxC at h
  split at h
  ·cases h
  ·rename_i he
   cases hq:idxC r j with
   |none =>
    intro hm
    rcases qBL.1 hm with hm|hm
    ·subst hm;simp at he
    ·exact zLW hq hm
   |some k=>rw[hq]at h;cases h
 |[],_,_=>by simp
theorem zGT{l:List Oper}: ∀{es:List Nat},zMZ l es=true->∀(a b:Nat) x y,a<b->es[a]?=some x->es[b]?=some y->x<y/\zGX l.toArray l.length y x=true
 |e::r,h,0,b+1,x,y,_,hx,hy=>by
  simp only[zMZ,qAV]at h
  simp at hx;subst hx
  have:=qAb.1 h.1 y (qAF (by simpa using hy))
  simp only[qAV]at this
  exact⟨by simpa using this.1,this.2⟩
 |e::r,h,a+1,b+1,x,y,hab,hx,hy=>by
  simp only[zMZ,qAV]at h
  exact zGT h.2 a b x y (by omega) (by simpa using hx) (by simpa using hy)
 |_,_,_,0,_,_,hab,_,_=>by omega
 |[],_,_,_+1,_,_,_,hx,_=>by simp at hx
def cntC(es:List Nat)(f:Nat->Bool): Nat:=(es.filter f).length
theorem zRX{es:List Nat}{f:Nat->Bool}{j i:Nat}(hnd:es.Nodup)(hj:es[i]?=some j)(hf:f j=false): cntC es (fun k=>k==j||f k)=cntC es f+1:=by
 unfold cntC
 induction es generalizing i with
 |nil=>simp at hj
 |cons e r ih =>
  rw[List.nodup_cons]at hnd
  cases i with
  |zero =>
   simp at hj;subst hj
   have e1:r.filter (fun k=>k==e||f k)=r.filter f:=List.filter_congr fun k hk=>by
    have:(k==e)=false:=by simp;intro h;subst h;exact hnd.1 hk
    rw[this,qBx]
   rw[qBI,qBI,hf]
   simp[e1]
  |succ i =>
   have hm:j∈r:=qAF (by simpa using hj)
   have hne:(e==j)=false:=by simp;intro h;subst h;exact hnd.1 hm
   have:=ih hnd.2 (by simpa using hj)
   rw[qBI,qBI,hne,qBx]
   split
   ·simp only[qAN];omega
   ·exact this
theorem zRY{es:List Nat}{f:Nat->Bool}{j:Nat}(hj:j∉es): cntC es (fun k=>k==j||f k)=cntC es f:=by
 unfold cntC
 congr 1
 refine List.filter_congr fun k hk=>?_
 have:(k==j)=false:=by simp;intro h;subst h;exact hj hk
 rw[this,qBx]
theorem zP9{es:List Nat}{f g:Nat->Bool}(h:∀k∈es,f k=true->g k=true): cntC es f<=cntC es g:=by
 unfold cntC
 induction es with
 |nil=>simp
 |cons e r ih =>
  have:=ih fun k hk=>h k (qAi _ hk)
  rw[qBI,qBI]
  split
  ·rename_i he
   rw[if_pos (h e List.mem_cons_self he)];simpa using this
  ·split
   ·simp only[qAN];omega
   ·exact this
theorem zQA{f:Nat->Bool}: ∀{es:List Nat} {i:Nat},(∀(a:Nat) x,es[a]?=some x->f x=decide (a<i))->i<=es.length->cntC es f=i
 |[],i,_,hi=>by simp at hi;subst hi;rfl
 |e::r,0,h,_=>by
  unfold cntC
  have:(e::r).filter f=[]:=List.filter_eq_nil_iff.2 fun x hx=>by
   obtain⟨a,ha⟩:=qA1.1 hx
   rw[h a x ha];simp
  rw[this];rfl
 |e::r,i+1,h,hi=>by
  have:=zQA (f:=f) (es:=r) (i:=i) (fun a x ha=>by rw[h (a+1) x (by simpa using ha)];simp) (by simpa using hi)
  unfold cntC at this ⊢
  rw[qBI,h 0 e rfl]
  simp[this]
def zBE(P:Program)(rs:Array ResultVar)(res:D)(post:List Ob): Exit->Sl->List Ob->Prop
 | .ret,σ,η=>ResC P rs σ η res/\Fits [] post σ η
 | .normal,σ,η=>ResC P rs σ η res/\Fits [] post σ η
 |_,_,_=>False
theorem Fits.absG{C:Ctx}{g:Gh}{s σ:Sl}{h η:List Ob}{a:Act}{w:World}(f:Fits s h σ η)(hg:AbsG C g σ η a w): ∃g',AbsG C g' s h a w/\g'.St=g.St:=by
 obtain⟨f1,f2,f3,f4⟩:=f
 obtain⟨r,e1,e2⟩:=f2.ex
 have h1:=hg.get_eq f1
 have hob:∀(id:Nat) (o:Ob),(h++r)[id]?=some o->ObOk g w id o:=fun id o ho=>by
  obtain⟨o',q1,q2⟩:=e2 id o ho
  exact q2 g w id (h1.inv.ob id o' q1)
 have hi:Inv g w (h++r):={ h1.inv with n:=h1.inv.n.trans e1.symm,ob:=hob }
 have h2:AbsG C g s (h++r) a w:={ h1 with inv:=hi }
 exact⟨_,h2.cut ⟨r,rfl⟩ f3 f4,rfl⟩
theorem zLR{P:Program}{f:FuncId}{fn:Func}{c:Code}{as:List SV}{pre post:List Ob}{res:D}{N:Nat}{rs:Array ResultVar}(hf:P.funcs[f]?=some fn)(hb:fn.body=some c)(hN:fn.ntmps=N)(hrs:fn.results=rs)(hl:Nat.ble as.length N=true)
  (hk:zDR pre post=true) (hu:zG7 post=true)
  (h:∀(w0:World) (St0:Stab) (X:Nat->Prop) (fx:Nat->Option Nat),awp ⟨P,N,w0,St0,X,0⟩ c (zBE P rs res (anch fx 0 pre post)) (zHx as 0) (anch fx 0 pre pre)):zAW P f as pre (.d res) post:=by
 intro g w vs hi hrep
 subst hN
 have hl:=qAO hl
 have hlen:=hrep.len
 refine calls_of_wp hf hb (h w g.St (fun b=>∃j,g.blk j=some b) g.blk _ ?_ _ _ ?_)
 ·intro e σ' η' a' w' hq ha
  have fin:(ResC P rs σ' η' res/\Fits [] (anch g.blk 0 pre post) σ' η')->a'.defers=[]/\∃v,(results fn a'.tmps).run P w' = .ok v w'/\∃v_1 g',Ending.returned v=.returned v_1/\Inv g' w' post/\RepS g' w' v_1 (.d res)/\Frame g w pre g' w':=by
   intro hq
   obtain⟨hq1,hq2⟩:=hq
   obtain⟨g0,hg0⟩:=ha
   obtain⟨v,hr,hrd⟩:=hq1.run (P:=P) hrs hg0
   obtain⟨g',hA,hSt⟩:=hq2.absG hg0
   obtain⟨hI,hbx⟩:=hA.inv.unanch hu
   refine⟨hA.defers,v,hr,v,g',rfl,hI,(by show RepD g'.St w' v res;rw[hSt];exact hrd),⟨hA.os,hA.tape,hA.output,hA.wsize,fun k hk hno=>hA.heap k hk (fun ⟨j,hj⟩=>hno j hj),hA.keep,fun b o hbo=>?_,fun j b hj=>hA.own j b hj (qAQ _),fun j o hj hob=>?_⟩⟩
   ·exact hA.new b o hbo
   ·have hjp:j<pre.length:=(qAA.1 hj).1
    have hjl:j<post.length:=qAa hjp (zE3 hk)
    have hp:post[j]?=some post[j]:=qAB hjl
    have hs:=zE4 hk j _ _ hj hp
    obtain⟨b',hb',hc'⟩:=hbx j _ hjp hp (zEs.2 (by rw[<-hs];exact zEs.1 hob))
    obtain⟨b,o1⟩:=zLU (hi.ob j _ hj) hob
    rw[hb',o1,hc' b o1]
  cases e <;> first|exact fin hq|exact hq.elim
 ·refine⟨g,rfl,?_,hi.anch,rfl,rfl,rfl,qAP _,fun _ _ _=>rfl,Keep.refl g.St w,fun _ _ h=>.inl h,fun i b hb _=>.inr ⟨i,hb⟩,?_⟩
  ·simp[hlen];omega
  ·refine zGI vs as 0 _ hrep fun j v hj=>?_
   have hjl:j<vs.length:=(qAA.1 hj).1
   simp only[qAY,qAL]
   rw[qAs (by simpa using hjl)]
   simp[hj]
theorem zIQ{P:Program}{rs:Array ResultVar}{res:D}{post:List Ob}{σ:Sl}{η:List Ob}(h:ResC P rs σ η res)(h2:Fits [] post σ η): zBE P rs res post .ret σ η:=⟨h,h2⟩
section
variable {C:Ctx}{ops:Array Oper}{rest:List Oper}{K:Sl->List Ob->Prop}{σ:Sl}{η:List Ob}{d:Nat}{ty:TypeId}{pos:String}{after:Array Edge}{gd:Option (Nat×Bool)}{t:TypeId}{x y:Operand}
end
section
variable {C:Ctx}{l:List Oper}{es:List Nat}{ηs:List (List Ob)}{j:Nat}{r:List Oper}{s:SV}{ss:List SV}{σ:Sl}{ids:List Nat}
theorem zCl{o:Oper}: YAll C σ o s []:=trivial
theorem zBc{o:Oper}{η:List Ob}{L:List (List Ob)}(h:Ylds C.P η σ o s)(hr:YAll C σ o s L): YAll C σ o s (η::L):=⟨h,hr⟩
theorem zEk{Q:Exit->Sl->List Ob->Prop}{η h:List Ob}{s:Sl}{id:Nat}{o:Array Oper}{dr:Bool}{c:Code}(f:Fits s h σ η)(hw:awp C (.region id o dr) (zBR (awp C c Q) Q) s h): awp C ((Code.region id o dr).seq c) Q σ η:=zBW f (zAE hw)
end
section
variable {P:Program}{η:List Ob}{σ:Sl}{dst:Option Nat}{ty:TypeId}{pos:String}{after:Array Edge}{gd:Option (Nat×Bool)}{t:TypeId}{x y z:Operand}
theorem RepS.bsl0{g:Gh}{w:World}{v:Value}{id n:Nat}(h:RepS g w v (.buf id n)): RepS g w v (.bsl id 0 n):=by
 obtain⟨h1,rfl⟩:=h
 exact⟨h1,_,by rw[Nat.sub_zero],fun _=>by rw[Nat.zero_mul]⟩
theorem src_row{g:Gh}{w:World}{id e sz off n:Nat}{mu:Bool}{xs:List D}{v:Value}(hi:Inv g w η)(ho:η[id]?=some (.buf mu e sz xs))(hr:RepS g w v (.bsl id off n))(hl:off+n<=xs.length):
  ∃(sa:Option Addr) (sc:Nat) (news:List Value),v=.slice sa n sc/\news.length=n*sz/\(∀u∈news,u.oneCell'=true)/\
   (0<n->∃ad,sa=some ad/\∀(j:Nat) (u:Value),news[j]?=some u->w.cell? (ad.add j)=some u)/\
   ∀(j:Nat) (u:Value) (d:D),news[j]?=some u->(zCM ((xs.drop off).take n))[j]?=some d->RepD g.St w u d:=by
 obtain⟨hid,a,rfl,ha⟩:=hr
 obtain⟨o1,o2,o3,o4,o5⟩:=hi.ob id _ ho
 rcases Nat.eq_zero_or_pos n with h0|h0
 ·subst h0
  exact⟨a,_,[],rfl,by simp,by simp,fun c=>by omega,fun j u d hu=>by simp at hu⟩
 ·rcases o5 with⟨h1,h2⟩|⟨b,us,h1,h2,h3,h4,h5,h6⟩
  ·omega
  ·have hsz:=ha h0
   rw[h1,o1]at hsz
   have hm:(off+n)*sz<=xs.length*sz:=qAh _ hl
   have hm2:xs.length*sz<=g.cap id*sz:=qAh _ o4
   rw[qAx]at hm
   have hat:∀j u,((us.toList.drop (off*sz)).take (n*sz))[j]?=some u->j<n*sz/\us[off*sz+j]?=some u:=fun j u hu=>by
    rw[qAS]at hu
    split at hu
    ·rename_i hj
     rw[qAl]at hu
     exact⟨hj,by simpa using hu⟩
    ·cases hu
   refine⟨a,_,(us.toList.drop (off*sz)).take (n*sz),rfl,?_,fun u hu=>?_,fun _=>⟨⟨b,off*sz,none⟩,by rw[hsz];rfl,fun j u hu=>?_⟩,fun j u d hu hd=>?_⟩
   ·rw[qAG,qAd,qAT,h3];omega
   ·obtain⟨j,hj⟩:=qA1.1 hu
    obtain⟨k1,k2⟩:=hat j u hj
    exact h4 _ u (by omega) k2
   ·obtain⟨k1,k2⟩:=hat j u hu
    rw[Addr.add_lit,cell_of_row w b _ us e (0,0) h2];exact k2
   ·obtain⟨k1,k2⟩:=hat j u hu
    refine h5 _ u d k2 ?_
    rw[zEN (fun x hx=>o2 x (qAo hx)),qAS,if_pos k1,zHE o2,qAl]at hd
    exact hd
theorem zdt{id m sz e:Nat}{mu:Bool}{n:Int}{k:IntKind}{xs:List D}(hx:oval σ x=.buf id m)(ho:η[id]?=some (.buf mu e sz xs))(hs:zA3 P t=some sz)(hlo:oval σ y=.d (.val (.int k n)))(h:0<=n/\n<=(m:Int))(hm:m<=xs.length):
  Ylds P η σ ⟨dst,.slice t x (some y) none none,ty,pos,after,gd⟩ (.bsl id n.toNat (m-n.toNat)):=by
 obtain⟨e',i,hu,hi',hsz⟩:=zBL hs
 refine Ylds.same fun g w a hi hop=>?_
 have hr:=hop x (by simp[Op.operands]);rw[hx]at hr
 obtain⟨h1,h2⟩:=hr
 have hz:=hop y (by simp[Op.operands]);rw[hlo]at hz
 obtain⟨o1,_,_,hcl,_⟩:=hi.ob id _ ho
 refine⟨.slice (if g.cap id=n.toNat then(g.blk id).map (fun b=>(⟨b,0,none⟩:Addr))else((g.blk id).map (fun b=>(⟨b,0,none⟩:Addr))).map (fun ad:Addr=>ad.add (n.toNat*i.size))) (m-n.toNat) (g.cap id-n.toNat),?_,h1,_,rfl,fun hp=>?_⟩
 ·simp only[execOp,h2,Sem.run_bind,Sem.run_pure]
  have:=zHN hu hi' ((g.blk id).map (⟨·,0,none⟩)) m (g.cap id) n.toNat m (some (a.eval y)) none (.inr ⟨k,by rw[RepD.val_eq hz,qA0 h.1]⟩) (.inl ⟨rfl,rfl⟩) (by omega) (by omega) w
  simp only[Option.map_none,qBn,this,Result.andThen_ok]
 ·rw[if_neg (by omega),o1,hsz]
  cases g.blk id <;> simp[Addr.add_lit]
theorem zbr{id m sz e:Nat}{mu:Bool}{n q:Int}{k k':IntKind}{xs:List D}(hx:oval σ x=.buf id m)(ho:η[id]?=some (.buf mu e sz xs))(hs:zA3 P t=some sz)(hlo:oval σ y=.d (.val (.int k n)))(hhi:oval σ z=.d (.val (.int k' q)))(h:0<=n/\n<=q/\q<=(m:Int))(hm:m<=xs.length):
  Ylds P η σ ⟨dst,.slice t x (some y) (some z) none,ty,pos,after,gd⟩ (.bsl id n.toNat (q.toNat-n.toNat)):=by
 obtain⟨e',i,hu,hi',hsz⟩:=zBL hs
 refine Ylds.same fun g w a hi hop=>?_
 have hr:=hop x (by simp[Op.operands]);rw[hx]at hr
 obtain⟨h1,h2⟩:=hr
 have hy:=hop y (by simp[Op.operands]);rw[hlo]at hy
 have hz:=hop z (by simp[Op.operands]);rw[hhi]at hz
 obtain⟨o1,_,_,hcl,_⟩:=hi.ob id _ ho
 refine⟨.slice (if g.cap id=n.toNat then(g.blk id).map (fun b=>(⟨b,0,none⟩:Addr))else((g.blk id).map (fun b=>(⟨b,0,none⟩:Addr))).map (fun ad:Addr=>ad.add (n.toNat*i.size))) (q.toNat-n.toNat) (g.cap id-n.toNat),?_,h1,_,rfl,fun hp=>?_⟩
 ·simp only[execOp,h2,Sem.run_bind,Sem.run_pure]
  have:=zHN hu hi' ((g.blk id).map (⟨·,0,none⟩)) m (g.cap id) n.toNat q.toNat (some (a.eval y)) (some (a.eval z)) (.inr ⟨k,by rw[RepD.val_eq hy,qA0 h.1]⟩) (.inr ⟨k',by rw[RepD.val_eq hz,qA0 (by omega)]⟩) (by omega) (by omega) w
  simp only[Option.map_none,qBn,this,Result.andThen_ok]
 ·rw[if_neg (by omega),o1,hsz]
  cases g.blk id <;> simp[Addr.add_lit]
theorem zIZ{id off n:Nat}(h:oval σ x=.bsl id off n): Ylds P η σ ⟨dst,.move x,ty,pos,after,gd⟩ (.bsl id off n):=zGp (.inl rfl) h
theorem zH8{id off n:Nat}(hx:oval σ x=.bsl id off n)(hu:(zBb P t).isSome=true): Ylds P η σ ⟨dst,.call ⟨.builtin .len, #[x], #[t]⟩,ty,pos,after,gd⟩ (.d (.val (.int .i64 (n:Int)))):=by
 obtain⟨e,he⟩:=qBB.1 hu
 have hu:=zCE he
 refine Ylds.same fun g w a hi h=>?_
 have h1:=h x (by simp[Op.operands,Call.operands]);rw[hx]at h1
 obtain⟨_,b,hv,_⟩:=h1
 refine⟨.int .i64 (n:Int),?_,.val _⟩
 simp[execOp,resolve,invoke,builtin,Builtin.len_,hv,run_underlying hu];rfl
theorem zQK{id m off sz e:Nat}{mu:Bool}{n:Int}{k:IntKind}{xs:List D}(hx:oval σ x=.bsl id off m)(hy:oval σ y=.d (.val (.int k n)))(ho:η[id]?=some (.buf mu e sz xs))(hs:zA3 P t=some sz)(h:0<=n/\n<(m:Int))(hm:off+m<=xs.length):
  Ylds P η σ ⟨dst,.indexAddr t x y,ty,pos,after,gd⟩ (.bptr id (off+n.toNat) 0):=by
 obtain⟨e',i,hu,hi',hsz⟩:=zBL hs
 refine Ylds.same fun g w a hi hop=>?_
 have hr:=hop x (by simp[Op.operands]);rw[hx]at hr
 obtain⟨h1,sa,h2,h3⟩:=hr
 have hz:=hop y (by simp[Op.operands]);rw[hy]at hz
 obtain⟨hgs,_,_,hcl,hb⟩:=hi.ob id _ ho
 have hbb:∃b,g.blk id=some b:=by
  rcases hb with⟨_,h0⟩|⟨b,_,hb,_⟩
  ·omega
  ·exact⟨b,hb⟩
 obtain⟨b,hb⟩:=hbb
 have h4:=h3 (by omega)
 rw[hb,hgs]at h4
 simp only[qBn]at h4
 subst h4
 refine⟨.pointer (some ⟨b,(off+n.toNat)*sz,none⟩),?_,h1,b,hb,by rw[hgs];rfl⟩
 simp[execOp,h2,RepD.val_eq hz,Instr.indexAt,asIntOf,run_underlying hu,h.1,h.2,sizeOf,typeInfo,hi',hsz,Addr.add_lit,Nat.add_mul]
end
section
variable {C:Ctx}{ops:Array Oper}{rest:List Oper}{K:Sl->List Ob->Prop}{σ:Sl}{η:List Ob}{d:Nat}{ty:TypeId}{pos:String}{after:Array Edge}{gd:Option (Nat×Bool)}{t:TypeId}{x y:Operand}
def zHy: SV->Option (Nat×Nat×Nat)
 | .buf id n=>some (id,0,n)
 | .bsl id off n=>some (id,off,n)
 |_=>none
theorem RepS.piece{g:Gh}{w:World}{v:Value}{s:SV}{id off n:Nat}(h:RepS g w v s)(hp:zHy s=some (id,off,n)): RepS g w v (.bsl id off n):=by
 cases s with
 |buf i m=>simp only[zHy,qBu,Prod.mk.injEq]at hp;obtain⟨rfl,rfl,rfl⟩:=hp;exact h.bsl0
 |bsl i o m=>simp only[zHy,qBu,Prod.mk.injEq]at hp;obtain⟨rfl,rfl,rfl⟩:=hp;exact h
 |_=>simp[zHy]at hp
theorem zVr{id n m e sz by' id2 off e2:Nat}{mu mu2:Bool}{xs ys:List D}(hx:oval σ x=.buf id n)(ho:η[id]?=some (.buf mu e sz xs))(hn:n<=xs.length)(hmu:mu=false->n=xs.length)
  (hy:zHy (oval σ y)=some (id2,off,m)) (ho2:η[id2]?=some (.buf mu2 e2 sz ys)) (hl:off+m<=ys.length)
  (he:zBb C.P t=some e) (hs:zA3 C.P t=some sz) (hz:zC6 C.P e=some sz) (hb:zCX C.P t=some by') (hf:∀d∈ys,d.flat.length=sz) (hlen:(n+m)*by'<=140737488355328/\n+m<=140737488355328) (hd:Nat.blt d C.N=true) (hro:Nat.ble C.ro id=true)
  (h:alex C false ops rest K ((d,.buf id (n+m))::zGY id σ) ((zGM id η).set id (.buf mu e sz (xs.take n++(ys.drop off).take m)))) :
  zA2 C false ops ⟨some d,.call ⟨.builtin .append, #[x,y], #[t,t]⟩,ty,pos,after,gd⟩ rest K σ η:=by
 obtain⟨e',i,hu,hi,hsz⟩:=zBL hs
 have:e'=e:=by have:=zCE he;rw[hu]at this;injection this with this;injection this
 subst this
 have hby:i.bytes=by':=by
  obtain⟨e2,i2,h1,h2,h3⟩:=zDh hb
  rw[hu]at h1;injection h1 with h1;injection h1 with h1;subst h1
  rw[hi]at h2;injection h2 with h2;subst h2;exact h3
 obtain⟨z,hzz,hzs⟩:=zGZ hi hz
 have hym:((ys.drop off).take m).length=m:=by rw[qAG,qAd];omega
 refine zds (ys:=(ys.drop off).take m) hx ho hn hmu (fun d hd=>hf d (qAo (qAW hd))) hd hro (fun g a w us ha hcm hus=>?_) (by rw[hym];exact h)
 obtain⟨sa,sc,news,hyv,hnl,hn1,hncell,hnrep⟩:=src_row ha.inv ho2 ((ha.eval y).piece hy) hl
 have:=zJJ w t ty e' i z hu hi hzz (by rw[hzs,hsz]) (g.blk id) n (g.cap id) us (by rw[hsz];exact hus) sa m sc news (by rw[hnl,hsz]) hncell hn1 (by rw[hby];exact hlen.1) (by simp only[maxLen];omega) hcm
 rw[hsz]at this
 refine⟨news,by rw[hym];exact hnl,hn1,hnrep,?_⟩
 rw[hym,hyv];exact this
end
section
variable {C:Ctx}{ops:Array Oper}{rest:List Oper}{K:Sl->List Ob->Prop}{σ:Sl}{η:List Ob}
theorem Inv.cutBuf{g:Gh}{w:World}(hi:Inv g w η){id e sz:Nat}{xs:List D}(ho:η[id]?=some (.buf true e sz xs))(n:Nat): Inv g w (η.set id (.buf true e sz (xs.take n))) where
 n:=by rw[qAZ];exact hi.n
 lt:=hi.lt
 dead:=hi.dead
 inj:=hi.inj
 st:=hi.st
 gl:=hi.gl
 ob i o hio:=by
  rw[qAX]at hio
  split at hio
  ·rename_i hii
   subst hii
   split at hio
   ·injection hio with hio;subst hio
    obtain⟨o1,o2,o3,o4,o5⟩:=hi.ob id _ ho
    have hle:(xs.take n).length<=xs.length:=by rw[qAG];omega
    have hm:(xs.take n).length*sz<=xs.length*sz:=qAh _ hle
    refine⟨o1,fun x hx=>o2 x (qAW hx),o3,by omega,?_⟩
    rcases o5 with h1|⟨b,us,h1,h2,h3,h4,h5,h6⟩
    ·exact .inl h1
    ·refine .inr ⟨b,us,h1,h2,h3,fun j u hj=>h4 j u (by omega),fun j u d hu hd=>h5 j u d hu ?_,fun o=>by rw[h6];simp⟩
     rw[zEN o2]at hd
     rw[qAS]at hd
     split at hd
     ·exact hd
     ·cases hd
   ·cases hio
  ·exact hi.ob i o hio
theorem zbk{Q:Exit->Sl->List Ob->Prop}{c:Code}(id n:Nat){e sz:Nat}{xs:List D}(ho:η[id]?=some (.buf true e sz xs))(h:awp C c Q σ (η.set id (.buf true e sz (xs.take n)))): awp C c Q σ η:=by
 intro R hR a w ⟨g,ha⟩
 exact h R hR a w ⟨g,{ ha with inv:=ha.inv.cutBuf ho n }⟩
end
end Go.Sx
namespace Go.Sx
def sw(i j k:Nat): Nat:=match Nat.beq k i with
 |true=>j
 |false=>match Nat.beq k j with
  |true=>i
  |false=>k
theorem zR5(i j k:Nat): sw i j k=if k=i then j else if k=j then i else k:=by
 unfold sw
 by_cases h1:k=i
 ·subst h1;simp
 ·rw[if_neg h1]
  have:Nat.beq k i=false:=by
   cases h:Nat.beq k i with
   |false=>rfl
   |true=>exact absurd (qAk h) h1
  rw[this]
  by_cases h2:k=j
  ·subst h2;simp
  ·rw[if_neg h2]
   have:Nat.beq k j=false:=by
    cases h:Nat.beq k j with
    |false=>rfl
    |true=>exact absurd (qAk h) h2
   rw[this]
theorem zTY(i j k:Nat): sw i j (sw i j k)=k:=by
 rw[zR5,zR5]
 by_cases h1:k=i
 ·subst h1;rw[if_pos rfl]
  by_cases h2:j=k
  ·rw[if_pos h2,h2]
  ·rw[if_neg h2,if_pos rfl]
 ·rw[if_neg h1]
  by_cases h2:k=j
  ·rw[if_pos h2,if_pos rfl,h2]
  ·rw[if_neg h2,if_neg h1,if_neg h2]
theorem zeG{i j k n:Nat}(hi:i<n)(hj:j<n)(hk:k<n): sw i j k<n:=by rw[zR5];split;exact hj;split;exact hi;exact hk
theorem zeH{i j k n:Nat}(hi:i<n)(hj:j<n)(hk:n<=k): sw i j k=k:=by rw[zR5,if_neg (by omega),if_neg (by omega)]
def zIa(i j:Nat): Nat->List Nat
 |0=>[]
 |n+1=>zIa i j n++[sw i j n]
theorem zNw(i j:Nat): ∀(n k:Nat),k<n->(zIa i j n).getD k 0=sw i j k
 |0,k,h=>by omega
 |n+1,k,h=>by
  have hl:(zIa i j n).length=n:=by
   have:∀m,(zIa i j m).length=m:=fun m=>by induction m with
    |zero=>rfl
    |succ m ih=>rw[zIa,qAE,ih];rfl
   exact this n
  rw[zIa,qAD]
  rcases qAR k n with h1|h1
  ·rw[qAI (by omega),<-qAD];exact zNw i j n k h1
  ·have:k=n:=by omega
   subst this
   rw[qAJ (by omega),hl,qBM];rfl
def renσ(ids:List Nat): Sl->Sl
 |[]=>[]
 |(k,s)::r=>(k,s.ren ids)::renσ ids r
theorem zRH(ids:List Nat): ∀(σ:Sl) (t:Nat),get (renσ ids σ) t=(get σ t).ren ids
 |[],t=>rfl
 |(k,s)::r,t=>by
  rw[renσ,zBx,zBx,zRH ids r t];split <;> rfl
def swη(i j:Nat)(η:List Ob)(ids:List Nat): List Ob:=(η.set i ((η.getD j .gone))).set j (η.getD i .gone) |>.map (Ob.ren ids)
theorem zZx{i j:Nat}{η:List Ob}{ids:List Nat}(hi:i<η.length)(hj:j<η.length)(k:Nat): (swη i j η ids)[k]?=(η[sw i j k]?).map (Ob.ren ids):=by
 unfold swη
 rw[qAH]
 congr 1
 rw[qAX,qAX,zR5]
 by_cases h1:k=i
 ·subst h1
  rw[if_pos rfl]
  by_cases h2:j=k
  ·subst h2;simp[hi]
  ·rw[if_neg h2,if_pos rfl,if_pos hi,qAD,qAB hj];rfl
 ·rw[if_neg h1]
  by_cases h2:k=j
  ·subst h2
   rw[if_pos rfl,if_pos rfl,qAZ,if_pos hj,qAD,qAB hi];rfl
  ·rw[if_neg (Ne.symm h2),if_neg (Ne.symm h1),if_neg h2]
section
variable {C:Ctx}{σ:Sl}{η:List Ob}
def swG(i j:Nat)(g:Gh): Gh:={ g with blk:=fun k=>g.blk (sw i j k),cap:=fun k=>g.cap (sw i j k),sz:=fun k=>g.sz (sw i j k) }
theorem zTZ{i j:Nat}{g:Gh}(hi:i<g.n)(hj:j<g.n): ∀k,k<g.n->(zIa i j g.n).getD k 0<(swG i j g).n/\(swG i j g).blk ((zIa i j g.n).getD k 0)=g.blk k/\(swG i j g).cap ((zIa i j g.n).getD k 0)=g.cap k/\(swG i j g).sz ((zIa i j g.n).getD k 0)=g.sz k:=fun k hk=>by
 rw[zNw i j g.n k hk]
 refine⟨zeG hi hj hk,?_,?_,?_⟩
 ·show g.blk (sw i j (sw i j k))=_;rw[zTY]
 ·show g.cap (sw i j (sw i j k))=_;rw[zTY]
 ·show g.sz (sw i j (sw i j k))=_;rw[zTY]
theorem ObOk.sw{g:Gh}{w:World}{i j k:Nat}{o:Ob}(hi:i<g.n)(hj:j<g.n)(h:ObOk g w (Sx.sw i j k) o): ObOk (swG i j g) w k (o.ren (zIa i j g.n)):=by
 have hm:=zTZ hi hj
 cases o with
 |bx kb et cs =>
  obtain⟨b,e,us,h1,h2,h3,h4,h5,h6⟩:=h
  refine⟨b,e,us,h1,h2,by rw[qAC];exact h3,h4,fun q u s hu hs=>?_,h6⟩
  rw[qAH]at hs
  cases hc:cs[q]? with
  |none=>rw[hc]at hs;cases hs
  |some s0=>rw[hc]at hs;injection hs with hs;subst hs;exact RepS.ren (g:=g) (g2:=swG i j g) rfl hm (h5 q u s0 hu hc)
 |buf mu e sz xs=>exact h
 |iter s pos=>exact h
 |mapq q kb l=>exact h
 |miter m since seen st =>
  obtain⟨b,bm,h1,h2,h3,h4,h5⟩:=h
  obtain⟨k1,k2,_,_⟩:=hm m h2
  exact⟨b,bm,h1,k1,by rw[k2];exact h3,h4,h5⟩
 |gone=>trivial
theorem AbsG.sw{g:Gh}{a:Act}{w:World}(h:AbsG C g σ η a w){i j:Nat}(hi:i<η.length)(hj:j<η.length)(hri:C.ro<=i)(hrj:C.ro<=j): AbsG C (swG i j g) (renσ (zIa i j η.length) σ) (swη i j η (zIa i j η.length)) a w:=by
 have hn:=h.inv.n
 rw[<-hn]at hi hj
 refine { h with inv:=?_,own:=fun id b hb hr=>?_,rep:=fun t=>?_,keep:=h.keep,new:=h.new }
 ·refine { n:=?_,lt:=fun id b hb=>h.inv.lt _ b hb,dead:=fun id hid=>?_,inj:=fun p q b hp hq=>?_,ob:=fun id o ho=>?_,st:=h.inv.st,gl:=h.inv.gl }
  ·show g.n=_
   unfold swη;rw[qAC,qAZ,qAZ];exact hn
  ·show g.blk (Sx.sw i j id)=none
   rw[zeH hi hj hid];exact h.inv.dead id hid
  ·have:=h.inv.inj _ _ b hp hq
   have e:=congrArg (Sx.sw i j) this
   rwa [zTY,zTY]at e
  ·rw[zZx (by omega) (by omega)]at ho
   cases hc:η[Sx.sw i j id]? with
   |none=>rw[hc]at ho;cases ho
   |some o0 =>
    rw[hc]at ho;injection ho with ho;subst ho
    have:=(h.inv.ob _ _ hc).sw hi hj
    rw[hn]at this
    exact this
 ·refine h.own (Sx.sw i j id) b hb ?_
  rw[zR5];split
  ·exact hrj
  ·split
   ·exact hri
   ·exact hr
 ·rw[zRH]
  have:=RepS.ren (g:=g) (g2:=swG i j g) (ids:=zIa i j g.n) rfl (zTZ hi hj) (h.rep t)
  rw[hn]at this
  exact this
theorem zJd{Q:Exit->Sl->List Ob->Prop}{c:Code}(i j:Nat)(hi:Nat.blt i η.length=true)(hj:Nat.blt j η.length=true)(hri:Nat.ble C.ro i=true)(hrj:Nat.ble C.ro j=true)(h:awp C c Q (renσ (zIa i j η.length) σ) (swη i j η (zIa i j η.length))): awp C c Q σ η:=by
 intro R hR a w ⟨g,ha⟩
 exact h R hR a w ⟨_,ha.sw (by simpa using hi) (by simpa using hj) (qAO hri) (qAO hrj)⟩
end
open Go.RowKit
section
variable {C:Ctx}{ops:Array Oper}{rest:List Oper}{K:Sl->List Ob->Prop}{σ:Sl}{η:List Ob}{d:Nat}{ty:TypeId}{pos:String}{after:Array Edge}{gd:Option (Nat×Bool)}{t:TypeId}{x y:Operand}
end
section
variable {P:Program}{η:List Ob}{σ:Sl}{dst:Option Nat}{ty:TypeId}{pos:String}{after:Array Edge}{gd:Option (Nat×Bool)}{t:TypeId}{x y z:Operand}
end
section
variable {P:Program}{η:List Ob}{σ:Sl}{dst:Option Nat}{ty:TypeId}{pos:String}{after:Array Edge}{gd:Option (Nat×Bool)}{t yt:TypeId}{x y:Operand}
theorem zPJ{k:IntKind}{m n:Int}(hx:oval σ x=.d (.val (.int k m)))(hy:oval σ y=.d (.val (.int k n))): Ylds P η σ ⟨dst,.binOp .and t x y yt,ty,pos,after,gd⟩ (.d (.val (.int k (k.wrap (BitVec.ofInt k.bits m &&& BitVec.ofInt k.bits n).toNat)))) :=
 zGW hx hy fun w=>by simp[eqGuard,binOp,Op.intBits]
theorem Y_or{k:IntKind}{m n:Int}(hx:oval σ x=.d (.val (.int k m)))(hy:oval σ y=.d (.val (.int k n))): Ylds P η σ ⟨dst,.binOp .or t x y yt,ty,pos,after,gd⟩ (.d (.val (.int k (k.wrap (BitVec.ofInt k.bits m ||| BitVec.ofInt k.bits n).toNat)))) :=
 zGW hx hy fun w=>by simp[eqGuard,binOp,Op.intBits]
end
theorem zSu{C:Ctx}{Q:Exit->Sl->List Ob->Prop}{σ:Sl}{η:List Ob}{rid:Nat}{l:List Oper}(ss:List SV)(i:Nat){x y:Operand}{t:TypeId}{d:Nat}{ty:TypeId}{pos:String}{after:Array Edge}(id:Nat){n m e sz by' id2 off e2:Nat}{mu mu2:Bool}{xs ys:List D}
  (hmx:C.P.follows .mixedOrders=true) (hB:zGQ l=true) (hle:l[i]?=some ⟨some d,.call ⟨.builtin .append, #[x,y], #[t,t]⟩,ty,pos,after,none⟩) (hes:Nat.blt i ss.length=true) (hsl:Nat.ble ss.length l.length=true)
  (hbar:ss.length=l.length\/zIc l.toArray (l.length-ss.length-1)=true)
  (hs:segG C l η i ((zGM id η).set id (.buf mu e sz (xs.take n++(ys.drop off).take m))) (SV.kill id) (zGY id) 0 l ss σ)
  (hx:oval (pst σ 0 l ss (fun m=>decide (m<i))) x=.buf id n) (ho:η[id]?=some (.buf mu e sz xs)) (hy:zHy (oval (pst σ 0 l ss (fun m=>decide (m<i))) y)=some (id2,off,m)) (ho2:η[id2]?=some (.buf mu2 e2 sz ys)) (hl:off+m<=ys.length) (hn:n<=xs.length) (hmu:mu=false->n=xs.length)
  (he:zBb C.P t=some e) (hsz:zA3 C.P t=some sz) (hz:zC6 C.P e=some sz) (hb:zCX C.P t=some by') (hf:∀d∈ys,d.flat.length=sz) (hlen:(n+m)*by'<=140737488355328/\n+m<=140737488355328) (hd:Nat.blt d C.N=true) (hro:Nat.ble C.ro id=true)
  (h:alex C true l.toArray (l.drop ss.length) (Q .normal) ((d,.buf id (n+m))::zGY id (segσ l (ss.map .y) σ)) ((zGM id η).set id (.buf mu e sz (xs.take n++(ys.drop off).take m)))):awp C (.region rid l.toArray true) Q σ η:=by
 refine zO8 ss i (SV.kill id) (zGY id) _ hmx hB hle rfl rfl hes hsl hbar (zGi id) hs (fun τ hτ=>?_) h
 have op:∀z,z=x\/z=y->oval τ z=oval (pst σ 0 l ss (fun m=>decide (m<i))) z:=fun z hz=>by
  cases z with
  |tmp t=>exact hτ t (zBv (by simp[Op.operands,Call.operands];rcases hz with h|h <;> simp[h]))
  |_=>rfl
 exact EStep.of (ops:=#[]) (zVr (id:=id) ((op x (.inl rfl)).trans hx) ho hn hmu ((congrArg zHy (op y (.inr rfl))).trans hy) ho2 hl he hsz hz hb hf hlen hd hro (zAB ⟨rfl,rfl⟩))
section
variable {C:Ctx}{ops:Array Oper}{rest:List Oper}{K:Sl->List Ob->Prop}{σ:Sl}{η:List Ob}{d:Nat}{ty:TypeId}{pos:String}{after:Array Edge}{gd:Option (Nat×Bool)}{t:TypeId}{x y:Operand}
theorem zZG{id n e sz id2 off m2 e2:Nat}{mu2:Bool}{xs ys zs:List D}{t2:TypeId}(hx:oval σ x=.buf id n)(ho:η[id]?=some (.buf true e sz xs))(hn:n=xs.length)(hy:zHy (oval σ y)=some (id2,off,m2))(ho2:η[id2]?=some (.buf mu2 e2 sz zs))(hl:off+m2<=zs.length)(hys:ys=(zs.drop off).take m2)(hs:zA3 C.P t=some sz)(hf0:∀d∈zs,d.flat.length=sz)(hro:Nat.ble C.ro id=true){dst:Option Nat}(hd:zEg C.N dst)
  (h:alex C false ops rest K (put σ dst (.d (.val (.int .i64 (min ys.length xs.length:Nat))))) (η.set id (.buf true e sz (ys.take xs.length++xs.drop ys.length)))) :
  zA2 C false ops ⟨dst,.call ⟨.builtin .copy, #[x,y], #[t,t2]⟩,ty,pos,after,gd⟩ rest K σ η:=by
 subst hn
 refine zMD (fun g a w ha=>?_) h
 obtain⟨e',i,hu,hi,hsz⟩:=zBL hs
 have hro:=qAO hro
 have hxr:=ha.eval x;rw[hx]at hxr
 obtain⟨hidn,hxv⟩:=hxr
 have hym:ys.length=m2:=by rw[hys,qAG,qAd];omega
 have hf:∀d∈ys,d.flat.length=sz:=fun d hd=>hf0 d (by rw[hys]at hd;exact qAo (qAW hd))
 obtain⟨sa,sc,news,hyv,hnl,hn1,hncell,hnrep⟩:=src_row ha.inv ho2 ((ha.eval y).piece hy) hl
 rw[<-hys]at hnrep
 rw[<-hym]at hyv hnl hncell
 obtain⟨o1,o2,o3,o4,o5⟩:=ha.inv.ob id _ ho
 let m:=min ys.length xs.length
 have hml:m*sz<=ys.length*sz:=qAh _ (Nat.min_le_left _ _)
 have hmx:m*sz<=xs.length*sz:=qAh _ (Nat.min_le_right _ _)
 have hfl:(zCM xs).length=xs.length*sz:=zB9 o2
 have hres:ys.take xs.length++xs.drop ys.length=ys.take m++xs.drop m:=by
  rcases Nat.le_total ys.length xs.length with hle|hle
  ·have e1:m=ys.length:=qBw hle
   rw[e1,qAe hle,qAw]
  ·have e1:m=xs.length:=Nat.min_eq_right hle
   rw[e1,List.drop_of_length_le hle,List.drop_of_length_le (qAP _)]
 have hfirst:(Builtin.firstCells i.size m (.slice sa ys.length sc)).run C.P w=.ok (news.take (m*sz)).toArray w:=by
  by_cases h0:0<ys.length
  ·obtain⟨ad,rfl,hcc⟩:=hncell h0
   refine run_firstCells_some (P:=C.P) w i.size m ad ys.length sc (news.take (m*sz)) (by rw[qAG,hnl,hsz];omega) (fun j v hj=>?_)
   rw[qAS]at hj
   split at hj
   ·exact hcc j v hj
   ·cases hj
  ·have hm0:m=0:=by show min _ _=0;omega
   rw[hm0]
   cases sa <;> simp[Builtin.firstCells,loadCells,loadCellsFrom]
 have hlx:(ys.take m++xs.drop m).length=xs.length:=by
  have hm1:m<=ys.length:=Nat.min_le_left _ _
  have hm2:m<=xs.length:=Nat.min_le_right _ _
  rw[qAE,qAG,qAd];omega
 have hff:∀d∈ys.take m++xs.drop m,d.flat.length=sz:=fun d hd=>by
  rcases qAc.1 hd with hd|hd
  ·exact hf d (qAW hd)
  ·exact o2 d (qAo hd)
 have hkey:∃w',(Builtin.copy_ #[t,t2] ty #[a.eval x,a.eval y]).run C.P w=.ok (goInt (m:Nat)) w'/\AbsG C g σ (η.set id (.buf true e sz (ys.take m++xs.drop m))) a w':=by
  rcases o5 with⟨h1,h2⟩|⟨b,us,h1,h2,h3,h4,h5,h6⟩
  ·have hx0:xs=[]:=qAq (by omega)
   subst hx0
   have hm0:m=0:=by show min _ _=0;simp
   refine⟨w,?_,?_⟩
   ·rw[hxv,hyv,h1]
    rw[hm0]at hfirst
    simp[Builtin.copy_,run_underlying hu,Builtin.lenOf,sizeOf,typeInfo,hi,hfirst,hm0]
   ·rw[hm0]
    have:η.set id (.buf true e sz ([].take 0++[].drop 0))=η:=by
     refine qBm fun j=>?_
     rw[qAX]
     split
     ·rename_i hj;subst hj;rw[if_pos (qAA.1 ho).1,ho];rfl
     ·rfl
    simp only[List.take_zero,List.drop_nil,qBC]at this ⊢
    rw[this];exact ha
  ·have hxu:xs.length*sz<=us.size:=by rw[h3];exact qAh _ o4
   have hln:(news.take (m*sz)).length=m*sz:=by rw[qAG];omega
   have hst:=run_storeCells_at C.P b 0 e (news.take (m*sz)) 0 us w h2 (by omega) (fun v hv=>hn1 v (qAW hv))
   simp only[qA6,List.take_zero,qBj,qAY,hln]at hst
   refine⟨_,?_,ha.writeBuf (us':=(news.take (m*sz)++us.toList.drop (m*sz)).toArray) ho hro h1 h2 (fun o hc=>by have:=(h6 o).1 hc;cases this.1) hff (by rw[hlx];exact o4) (by simp[hln];omega) h3 (fun j u hj hu'=>?_) (fun j u d' hu' hd'=>?_)⟩
   ·rw[hxv,hyv,h1]
    simp[Builtin.copy_,run_underlying hu,Builtin.lenOf,sizeOf,typeInfo,hi,hfirst,hst,m]
   ·rw[qBW]at hu'
    rcases qAR j (m*sz)with hj2|hj2
    ·rw[qAI (by omega)]at hu'
     exact hn1 u (qAW (qAF hu'))
    ·rw[qAJ (by omega),hln,qAl,qA4]at hu'
     rw[hlx]at hj
     exact h4 _ u (by omega) hu'
   ·rw[qBW]at hu'
    rw[zEE,zEN hf,zHE o2]at hd'
    have hly:((zCM ys).take (m*sz)).length=m*sz:=by rw[qAG,zB9 hf];omega
    rcases qAR j (m*sz)with hj2|hj2
    ·rw[qAI (by omega),qAS,if_pos hj2]at hu' hd'
     exact hnrep j u d' hu' hd'
    ·rw[qAJ (by omega),qAl]at hu' hd'
     rw[hln,qA4]at hu'
     rw[hly]at hd'
     exact h5 _ u d' hu' hd'
 obtain⟨w',hrun,hab⟩:=hkey
 rw[<-hres]at hab
 refine⟨.int .i64 (m:Nat),w',?_,g,hab.put (d:=dst) hd (.val _)⟩
 simp only[execOp,resolve,invoke,builtin,Sem.run_bind,Sem.run_pure,Result.andThen_ok,qBH,qAr,qBf,hrun]
 rfl
end
end Go.Sx
namespace Go.Sx
def preC: List Code->Code->Code
 |[],x=>x
 |p::ps,x=>p.seq (preC ps x)
def zBG(C:Ctx): List Code->(Sl->List Ob->Prop)->(Exit->Sl->List Ob->Prop)->Sl->List Ob->Prop
 |[],K,_,σ,η=>K σ η
 |p::ps,K,Q,σ,η=>awp C p (zBR (zBG C ps K Q) Q) σ η
theorem aw_c{C:Ctx}{p:Code}{ps:List Code}{K:Sl->List Ob->Prop}{Q:Exit->Sl->List Ob->Prop}{σ:Sl}{η:List Ob}(h:awp C p (zBR (zBG C ps K Q) Q) σ η): zBG C (p::ps) K Q σ η:=h
theorem zdj{C:Ctx}{K:Sl->List Ob->Prop}{Q:Exit->Sl->List Ob->Prop}{σ:Sl}{η:List Ob}(h:K σ η): zBG C [] K Q σ η:=h
theorem zVc{C:Ctx}{x:Code}{K:Sl->List Ob->Prop}{Q R:Exit->Sl->List Ob->Prop}(hx:∀σ η,K σ η->awp C x R σ η)(he:∀e σ η,e≠.normal->Q e σ η->R e σ η):
  ∀(ps:List Code) (σ:Sl) (η:List Ob),zBG C ps K Q σ η->awp C (preC ps x) R σ η
 |[],σ,η,h=>hx σ η h
 |p::ps,σ,η,h=>by
  refine zAE ?_
  intro S hS a w hab
  refine h S (fun e σ' η' a' w' hq hab'=>?_) a w hab
  cases e with
  |normal=>exact hS .normal σ' η' a' w' (zVc hx he ps σ' η' hq) hab'
  |_=>exact hS _ _ _ _ _ (he _ _ _ (by intro c;cases c) hq) hab'
theorem zQD{C:Ctx}{rest rest':Code}{Q:Exit->Sl->List Ob->Prop}{σ:Sl}{η:List Ob}{α:Type}(ps:List Code)(l:Nat)(hf:findLabel (preC ps ((Code.label l).seq rest)) l=some rest')(hr:rest'=Code.skip.seq rest)(I:α->Prop)(s:α->Sl)(h:α->List Ob)(μ:α->Nat)
  (first:zBG C ps (fun σ' η'=>∃y,I y/\Fits (s y) (h y) σ' η') (zBV l (fun _ _=>False) Q) σ η)
  (pass:∀x,I x->awp C rest (zBV l (fun σ' η'=>∃y,I y/\μ y<μ x/\Fits (s y) (h y) σ' η') Q) (s x) (h x)):awp C (.scope (preC ps ((Code.label l).seq rest))) Q σ η:=by
 subst hr
 have conv0:∀x,I x->awp C rest (zBV l (fun σ' η'=>∃y,I y/\μ y<μ x/\s y=σ'/\h y=η') Q) (s x) (h x):=by
  intro x hx R hR a w hab
  exact pass x hx R (fun e σ' η' a' w' hq hab'=>by
   cases e with
   |goto l'=>obtain⟨e1,y,h1,h2,h3⟩:=hq;exact hR (.goto l') _ _ a' w' ⟨e1,y,h1,h2,rfl,rfl⟩ (h3.abs hab')
   |_=>exact hR _ _ _ _ _ hq hab') a w hab
 have conv:∀x,I x->awp C (Code.skip.seq rest) (zBV l (fun σ' η'=>∃y,I y/\μ y<μ x/\s y=σ'/\h y=η') Q) (s x) (h x):=fun x hx=>zAE (zAP (conv0 x hx))
 refine zSs l hf I s h μ ?_ conv
 refine zVc (K:=fun σ' η'=>∃y,I y/\Fits (s y) (h y) σ' η') (Q:=zBV l (fun _ _=>False) Q) ?_ ?_ ps σ η first
 ·rintro σ' η' ⟨y,h1,h2⟩
  refine zAE (zVe ?_)
  intro R hR a w hab
  refine conv0 y h1 R (fun e σ' η' a' w' hq hab'=>?_) a w (h2.abs hab)
  cases e with
  |goto l'=>obtain⟨e1,z,z1,z2,z3,z4⟩:=hq;exact hR (.goto l') _ _ a' w' ⟨e1,z,z1,z3,z4⟩ hab'
  |_=>exact hR _ _ _ _ _ hq hab'
 ·intro e σ' η' hne hq
  cases e with
  |goto l'=>exact hq.2.elim
  |normal=>exact absurd rfl hne
  |_=>exact hq
open Go.RowKit
def rowP(o:Option Nat)(n:Nat)(v:Value): Prop:=∃b,o=some b/\v=.slice (some ⟨b,0,none⟩) n n
section
variable {P:Program}{η:List Ob}{σ:Sl}{dst:Option Nat}{ty:TypeId}{pos:String}{after:Array Edge}{gd:Option (Nat×Bool)}{t yt:TypeId}{x y:Operand}
theorem zNf{φ:Value->Prop}(h:oval σ x=.p φ): Ylds P η σ ⟨dst,.move x,ty,pos,after,gd⟩ (.p φ):=zGp (.inl rfl) h
theorem zS5{φ:Value->Prop}(h:oval σ x=.p φ): Ylds P η σ ⟨dst,.assign x,ty,pos,after,gd⟩ (.p φ):=zGp (.inr rfl) h
theorem Y_index_row{id m:Nat}{n:Int}{k:IntKind}{o:Option Nat}{et:Option TypeId}{cs:List SV}(hx:oval σ x=.p (rowP o m))(hy:oval σ y=.d (.val (.int k n)))(ho:η[id]?=some (.bx o et cs))(hs:zA3 P t=some 1)(h:0<=n/\n<(m:Int)):
  Ylds P η σ ⟨dst,.indexAddr t x y,ty,pos,after,gd⟩ (.ptr id n.toNat):=by
 refine Ylds.same fun g w a hi hr=>?_
 obtain⟨e,i,hu,hinf,hsz⟩:=zBL hs
 have hxr:=hr x (by simp[Op.operands])
 rw[hx]at hxr
 obtain⟨b,hb,hv⟩:=hxr
 have hyr:=hr y (by simp[Op.operands])
 rw[hy]at hyr
 obtain⟨b',e',us,o1,o2,o3,o4,o5,o6,o7,o8⟩:=hi.ob id _ ho
 have hbb:b=b':=o7 b hb
 subst hbb
 refine⟨.pointer (some ⟨b,n.toNat,none⟩),?_,⟨by rw[hi.n];exact(qAA.1 ho).1,b,o1,rfl⟩⟩
 simp[execOp,hv,RepD.val_eq hyr,Instr.indexAt,asIntOf,run_underlying hu,h.1,h.2,sizeOf,typeInfo,hinf,hsz,Addr.add_lit]
end
section
variable {C:Ctx}{ops:Array Oper}{rest:List Oper}{K:Sl->List Ob->Prop}{σ:Sl}{η:List Ob}{d:Nat}{ty:TypeId}{pos:String}{after:Array Edge}{gd:Option (Nat×Bool)}{t:TypeId}{x y:Operand}
theorem zbp(et:Option TypeId){g:Gh}{a:Act}{w:World}(ha:AbsG C g σ η a w)(e:TypeId)(het:∀t,et=some t->t=e)(us:Array Value)(cs:List SV)(s:SV)(v:Value)(hsv:∀g' w',RepS g' w' v s)(hd:Nat.blt d C.N=true)(hro:C.ro<=η.length)(hl:us.size=cs.length)(h1:∀u∈us,u.oneCell'=true)
  (hr:∀(j:Nat) (u:Value) (s:SV),us[j]?=some u->cs[j]?=some s->RepS g w u s) :
  Abs C ((d,s)::σ) (η++[.bx (some w.heap.size) et cs]) (a.put (some d) v) (w.alloc (.cells us e)):=by
 have hn:=ha.inv.n
 let g':Gh:={ g with blk:=upd g.blk g.n (some w.heap.size),n:=g.n+1 }
 have hold:∀id,id<g.n->g'.blk id=g.blk id/\g'.cap id=g.cap id/\g'.sz id=g.sz id:=fun id hid=>⟨by simp[g',upd,Nat.ne_of_lt hid],rfl,rfl⟩
 have hbn:g'.blk g.n=some w.heap.size:=by simp[g',upd]
 have kp:Keep g.St w g'.St (w.alloc (.cells us e)):=⟨fun _ _ h=>h,fun b o u hb hu=>(World.cell?_of_block (a:=⟨b,o,none⟩) (Below.heap_alloc w _ b (ha.inv.st b o hb))).trans hu,fun b hb=>Below.heap_alloc w _ b (ha.inv.st b 0 (hb 0))⟩
 have hab:=ha.newOb (g':=g') (w':=w.alloc (.cells us e)) (.bx (some w.heap.size) et cs) rfl rfl rfl (by simp) (fun k hk=>Below.heap_alloc w _ k hk) rfl hold
  (fun id hid=>by
   have hne:id≠g.n:=by omega
   simp only[g',upd,if_neg hne]
   exact ha.inv.dead id (by omega)) (fun b hb=>by rw[hbn]at hb;injection hb with hb;subst hb;simp) (fun _ _ h=>h) (fun _ _ h=>.inl h) (fun b o hb=>qAa (ha.inv.st b o hb) (by simp)) (by rw[hn];exact hro)
  ⟨w.heap.size,e,us,hbn,_root_.Go.heap_alloc_new w _,hl,h1,fun j u s hu hs=>(hr j u s hu hs).ext kp hold (by simp[g']),fun o ho=>absurd (ha.inv.st _ o ho) (by omega),⟨fun c h=>(by injection h with h;exact h.symm),het⟩⟩
 exact⟨g',hab.put (d:=some d) hd (hsv _ _)⟩
theorem zYX{e by':Nat}{zd:D}{n:Int}{k k':IntKind}(hx:oval σ x=.d (.val (.int k n)))(hy:oval σ y=.d (.val (.int k' n)))(he:zBb C.P t=some e)(hs:zA3 C.P t=some 1)(hz:zKH C.P e=some zd)(hzl:zd.flat=[zd])(hb:zCX C.P t=some by')
  (hd:Nat.blt d C.N=true) (hro:Nat.ble C.ro η.length=true) (hn:0<=n/\n*by'<=281474976710656/\n<=281474976710656)
  (h:∀o,alex C false ops rest K ((d,.p (rowP o n.toNat))::σ) (η++[.bx o (some e) (List.replicate n.toNat (.d zd))])) :
  zA2 C false ops ⟨some d,.makeSlice t x y,ty,pos,after,gd⟩ rest K σ η:=by
 intro Q hQ a w ⟨g,ha⟩ K' hK'
 obtain⟨e',i,hu,hi,hsz⟩:=zBL hs
 have:e'=e:=by have:=zCE he;rw[hu]at this;injection this with this;injection this
 subst this
 have hby:i.bytes=by':=by
  obtain⟨e2,i2,h1,h2,h3⟩:=zDh hb
  rw[hu]at h1;injection h1 with h1;injection h1 with h1;subst h1
  rw[hi]at h2;injection h2 with h2;subst h2;exact h3
 obtain⟨z,hzz,hzs,hz1,hzr⟩:=zIC hi hz
 have hxr:=ha.eval x;rw[hx]at hxr
 have hyr:=ha.eval y;rw[hy]at hyr
 have hrun:=run_make (P:=C.P) w t e' i z hu hi hzz k k' n n hn.1 (qBO _) (by rw[hby,Int.mul_comm];exact hn.2.1) (by omega)
 rw[hzl]at hzs
 have hg0:∀(j:Nat) (u:Value),(madeCells z.cells (n.toNat*i.size))[j]?=some u->j<n.toNat/\z.cells[0]?=some u:=by
  intro j u hu
  unfold madeCells at hu
  rw[hsz]at hu
  obtain⟨hj,hu⟩:=qAt.1 hu
  simp at hj
  simp only[Array.getElem_map,Array.getElem_range]at hu
  have hm:0<z.cells.size:=by rw[hzs];exact Nat.one_pos
  have h0:j%z.cells.size=0:=by rw[hzs];exact Nat.mod_one j
  refine⟨by omega,?_⟩
  rw[h0,getElem!_pos z.cells 0 hm]at hu
  rw[qAK hm,hu]
 have hb0:=zbp (some e') (d:=d) ha e' (fun t ht=>by injection ht with ht;exact ht.symm) (madeCells z.cells (n.toNat*i.size)) (List.replicate n.toNat (.d zd)) (.p (rowP (some w.heap.size) n.toNat)) (.slice (some ⟨w.heap.size,0,none⟩) n.toNat n.toNat) (fun _ _=>⟨_,rfl,rfl⟩) hd (qAO hro) (by rw[size_madeCells,hsz,qAp,Nat.mul_one])
  (fun u hu=>by obtain⟨j,hj⟩:=Array.getElem?_of_mem hu;exact hz1 u (qBE (hg0 j u hj).2))
  (fun j u s hu hs=>by
   obtain⟨h1,h2⟩:=hg0 j u hu
   rw[List.getElem?_replicate,if_pos h1]at hs
   injection hs with hs
   subst hs
   exact hzr g.St w 0 u zd h2 (by rw[hzl];rfl))
 have hrun2:(execOp a.eval ⟨some d,.makeSlice t x y,ty,pos,after,gd⟩).run C.P w=.ok (.value (.slice (some ⟨w.heap.size,0,none⟩) n.toNat n.toNat)) (w.alloc (.cells (madeCells z.cells (n.toNat*i.size)) e')):=by
  simp only[execOp,Sem.run_bind,RepD.val_eq hxr,RepD.val_eq hyr,hrun];rfl
 unfold Oper.wp
 rw[hrun2]
 exact hK' _ _ (h _ Q hQ _ _ hb0)
def zBF(P:Program)(f:FuncId)(as:List SV)(j n:Nat)(pre:List Ob)(res:SV)(post:List Ob): Prop :=
 ∀(g:Gh) (w:World) (vs:List Value),Inv g w pre->RepSs g w vs (as++[.p (rowP (g.blk j) n)])->
  Calls P f vs.toArray w (fun e w'=>∃v g',e=.returned v/\Inv g' w' post/\RepS g' w' v res/\Frame g w pre g' w')
theorem zLT{P:Program}{f:FuncId}{fn:Func}{c:Code}{as:List SV}{j n:Nat}{pre post:List Ob}{res:SV}{N:Nat}{rs:Array ResultVar}(hf:P.funcs[f]?=some fn)(hb:fn.body=some c)(hN:fn.ntmps=N)(hrs:fn.results=rs)(hl:Nat.ble (as.length+1) N=true)
  (hk:zDR pre post=true) (hu:zG7 post=true)
  (h:∀(w0:World) (St0:Stab) (X:Nat->Prop) (fx:Nat->Option Nat),awp ⟨P,N,w0,St0,X,0⟩ c (zBM rs res (anch fx 0 pre post)) (zHx (as++[.p (rowP (fx j) n)]) 0) (anch fx 0 pre pre)):zBF P f as j n pre res post:=by
 intro g w _ hi hrep
 exact mcall_of1 hf hb hN hrs (by rw[qAE];exact hl) hk hu (fun w0 St0 X=>h w0 St0 X g.blk) w _ hi hrep
where
 mcall_of1 {P:Program} {f:FuncId} {fn:Func} {c:Code} {g:Gh} {as:List SV} {pre post:List Ob} {res:SV} {N:Nat} {rs:Array ResultVar} (hf:P.funcs[f]?=some fn) (hb:fn.body=some c) (hN:fn.ntmps=N) (hrs:fn.results=rs) (hl:Nat.ble as.length N=true)
   (hk:zDR pre post=true) (hu:zG7 post=true)
   (h:∀(w0:World) (St0:Stab) (X:Nat->Prop),awp ⟨P,N,w0,St0,X,0⟩ c (zBM rs res (anch g.blk 0 pre post)) (zHx as 0) (anch g.blk 0 pre pre)) (w:World) (vs:List Value) (hi:Inv g w pre) (hrep:RepSs g w vs as) :
   Calls P f vs.toArray w (fun e w'=>∃v g',e=.returned v/\Inv g' w' post/\RepS g' w' v res/\Frame g w pre g' w'):=by
  subst hN
  have hl:=qAO hl
  have hlen:=hrep.len
  refine calls_of_wp hf hb (h w g.St (fun b=>∃j,g.blk j=some b) _ ?_ _ _ ?_)
  ·intro e σ' η' a' w' hq ha
   have fin:MRes rs res (anch g.blk 0 pre post) σ' η'->a'.defers=[]/\∃v,(results fn a'.tmps).run P w' = .ok v w'/\∃v_1 g',Ending.returned v=.returned v_1/\Inv g' w' post/\RepS g' w' v_1 res/\Frame g w pre g' w':=by
    intro hq
    obtain⟨v,g',σ2,hr,hA,hrep'⟩:=hq.abs (P:=P) hrs ha
    obtain⟨hI,hbx⟩:=hA.inv.unanch hu
    refine⟨hA.defers,v,hr,v,g',rfl,hI,hrep',⟨hA.os,hA.tape,hA.output,hA.wsize,fun k hk hno=>hA.heap k hk (fun ⟨j,hj⟩=>hno j hj),hA.keep,fun b o hbo=>?_,fun j b hj=>hA.own j b hj (qAQ _),fun j o hj hob=>?_⟩⟩
    ·exact hA.new b o hbo
    ·have hjp:j<pre.length:=(qAA.1 hj).1
     have hjl:j<post.length:=qAa hjp (zE3 hk)
     have hp:post[j]?=some post[j]:=qAB hjl
     have hs:=zE4 hk j _ _ hj hp
     obtain⟨b',hb',hc'⟩:=hbx j _ hjp hp (zEs.2 (by rw[<-hs];exact zEs.1 hob))
     obtain⟨b,o1⟩:=zLU (hi.ob j _ hj) hob
     rw[hb',o1,hc' b o1]
   cases e <;> first|exact fin hq|exact hq.elim
  ·refine⟨g,rfl,?_,hi.anch,rfl,rfl,rfl,qAP _,fun _ _ _=>rfl,Keep.refl g.St w,fun _ _ h=>.inl h,fun i b hb _=>.inr ⟨i,hb⟩,?_⟩
   ·simp[hlen];omega
   ·refine zGI vs as 0 _ hrep fun j v hj=>?_
    have hjl:j<vs.length:=(qAA.1 hj).1
    simp only[qAY,qAL]
    rw[qAs (by simpa using hjl)]
    simp[hj]
theorem RepSs.last{g:Gh}{w:World}{φ ψ:Value->Prop}(h:∀v,φ v->ψ v): ∀{vs:List Value} {as:List SV},RepSs g w vs (as++[.p φ])->RepSs g w vs (as++[.p ψ])
 |[],[],hr=>hr.elim
 |v::_,[],hr=>⟨h v hr.1,hr.2⟩
 |[],_::_,hr=>hr.elim
 |_::_,_::_,hr=>⟨hr.1,RepSs.last h hr.2⟩
theorem zVp{f:FuncId}{args:List Operand}{ts:Array TypeId}{as:List SV}{pre post:List Ob}{res:SV}{n i:Nat}{et:Option TypeId}{cs:List SV}(ids:List Nat)(j:Nat)(o:Option Nat)(hb:zAL C.P f=true)(hc:zBF C.P f as j n pre res post)(hij:ids[j]?=some i)(hj:η[i]?=some (.bx o et cs))(ha:SArgs σ ids args (as++[.p (rowP o n)]))(hp:Picks η ids pre)(hd:Nat.blt d C.N=true)
  (hn:ids.Nodup) (hlen:ids.length=pre.length) (hu:zG7 pre=true) (hbl:pre.all (Ob.below pre.length)=true) (hba:as.all (SV.bel pre.length)=true) (hk:zIu pre post=true) (hro:ids.all (fun i=>Nat.ble C.ro i)=true)
  (h:alex C false ops rest K ((d,res.ren ids)::zEl (zB2 ids pre) ids σ) (zD6 (zFT (zB2 ids pre) ids η) ids (post.map (Ob.ren ids)))) :
  zA2 C false ops ⟨some d,.call ⟨.value (.func f),args.toArray,ts⟩,ty,pos,after,gd⟩ rest K σ η:=by
 intro Q hQ a w ⟨g,hg⟩ K' hK'
 obtain⟨e1,e2⟩:=ha.rep hg
 unfold Oper.wp
 have hrun:(execOp a.eval ⟨some d,.call ⟨.value (.func f),args.toArray,ts⟩,ty,pos,after,gd⟩).run C.P w=.ok (.enter f (args.map a.eval).toArray) w:=by
  simp only[execOp,resolve,Act.eval,Deferred.ofValue,invoke,Sem.run_bind,Sem.run_pure,Result.andThen_ok,qBH,Array.empty_append,Array.append_empty]
  exact zFN hb
 rw[hrun,Oper.upon_enter]
 have hr:=RepSs.callee (g:=g) (w:=w) hlen (args.map a.eval) (as++[.p (rowP o n)]) e2 (by simp[e1]) (by rw[List.all_append,hba];rfl)
 have hr2:RepSs (zCF g ids) w (args.map a.eval) (as++[.p (rowP ((zCF g ids).blk j) n)]):=by
  refine hr.last fun v hv=>?_
  obtain⟨b,h1,h2⟩:=hv
  refine⟨b,?_,h2⟩
  obtain⟨b',_,_,o1,_,_,_,_,_,o7,_⟩:=hg.inv.ob i _ hj
  have:b=b':=o7 b h1
  subst this
  show (ids[j]?).bind g.blk=some b
  rw[hij];exact o1
 refine(hc (zCF g ids) w _ (hg.inv.callee hn hlen hp hu hbl) hr2).mono fun e w' ⟨v,g',he,hI,hres,hF⟩=>?_
 subst he
 obtain⟨hk1,hk2⟩:=zGe hk
 obtain⟨g2,h1,h2⟩:=hg.called hn hlen hp hk1 hro hI hres hF
 obtain⟨e3,e4⟩:=zMf (ids:=ids) (η:=η) hk2
 rw[e3]at h1;rw[e4]at h2
 exact hK' _ _ (h Q hQ _ w' ⟨g2,h1.put (d:=some d) hd h2⟩)
theorem Abs.torow{a:Act}{w:World}(id k n:Nat){o:Option Nat}{e:TypeId}{xs:List D}(hk:get σ k=.p (rowP o n))(ho:η[id]?=some (.bx o (some e) (xs.map .d)))(hn:n=xs.length)(hnm:n<=maxLen)(hf:∀d∈xs,d.flat=[d])(_hro:C.ro<=id)(h:Abs C σ η a w):
  Abs C ((k,.buf id n)::zGY id σ) ((zGM id η).set id (.buf true e 1 xs)) a w:=by
 obtain⟨g,ha⟩:=h
 have hidl:id<η.length:=(qAA.1 ho).1
 obtain⟨b,e',us,o1,o2,o3,o4,o5,o6,o7,o8⟩:=ha.inv.ob id _ ho
 have he:e=e':=o8 e rfl
 subst he
 rw[qAC]at o3
 let g':Gh:={ g with cap:=upd g.cap id n,sz:=upd g.sz id 1 }
 have rk:∀{v:Value} {s:SV},RepS g w v s->RepS g' w v (s.kill id):=fun r=>RepS.other (g:=g) (g':=g') (id:=id) (Keep.refl g.St w) (fun i hi=>⟨rfl,by simp[g',upd,hi],by simp[g',upd,hi]⟩) rfl r
 have hflat:zCM xs=xs:=by
  have:∀l:List D,(∀d∈l,d.flat=[d])->zCM l=l:=fun l=>by
   induction l with
   |nil=>intro _;rfl
   |cons d r ih=>intro h;show d.flat++zCM r=_;rw[h d (by simp),ih fun x hx=>h x (qAi _ hx)];rfl
  exact this xs hf
 refine⟨g',ha.defers,ha.size,⟨by rw[qAZ,zD9];exact ha.inv.n,ha.inv.lt,ha.inv.dead,ha.inv.inj,fun i ob hi=>?_,ha.inv.st,ha.inv.gl⟩,ha.os,ha.tape,ha.output,ha.wsize,ha.heap,ha.keep,ha.new,ha.own,fun t=>?_⟩
 ·rw[qAX]at hi
  split at hi
  ·rename_i hc;subst hc
   rw[if_pos (by rw[zD9];exact hidl)]at hi
   injection hi with hi;subst hi
   refine⟨by simp[g',upd],fun d hd=>by rw[hf d hd];rfl,by simp only[g',upd,if_true];omega,by simp only[g',upd,if_true];omega,.inr ⟨b,us,o1,o2,by simp only[g',upd,if_true];omega,fun j u hj hu=>o4 u (qBE hu),fun j u d hu hd=>?_,fun o=>⟨fun h=>absurd h (o6 o),fun h=>by cases h.1⟩⟩⟩
   rw[hflat]at hd
   exact o5 j u (.d d) hu (by rw[qAH,hd];rfl)
  ·rename_i hc
   rw[zH5]at hi
   cases hη:η[i]? with
   |none=>rw[hη]at hi;cases hi
   |some o0 =>
    rw[hη]at hi
    injection hi with hi
    subst hi
    have hob:=ha.inv.ob i _ hη
    cases o0 with
    |bx k et cs =>
     obtain⟨b,e,us,h1,h2,h3,h4,h5,h6,h7⟩:=hob
     refine⟨b,e,us,h1,h2,by rw[qAC];exact h3,h4,fun j u s hu hs=>?_,h6,h7⟩
     rw[qAH]at hs
     cases hcs:cs[j]? with
     |none=>rw[hcs]at hs;cases hs
     |some s0 =>
      rw[hcs]at hs;injection hs with hs;subst hs
      exact rk (h5 j u s0 hu hcs)
    |buf mu e sz xs =>
     have hne:¬i=id:=fun c=>hc c.symm
     obtain⟨h1,h2,h3,h4,h5⟩:=hob
     exact⟨by simp only[g',upd,if_neg hne];exact h1,h2,by simp only[g',upd,if_neg hne];exact h3,by simp only[g',upd,if_neg hne];exact h4,by simp only[g',upd,if_neg hne];exact h5⟩
    |iter s pos=>exact hob
    |mapq q k l=>exact hob
    |miter m since seen st =>
     simp only[Ob.kill]
     split
     ·trivial
     ·exact hob
    |gone=>trivial
 ·rw[zBx]
  split
  ·rename_i hkt;subst hkt
   have hr:=ha.rep k
   rw[hk]at hr
   obtain⟨b',h1,h2⟩:=hr
   have:b'=b:=o7 b' h1
   subst this
   refine⟨by show id<g.n;rw[ha.inv.n];exact hidl,?_⟩
   rw[h2]
   simp[g',upd,o1]
  ·rw[zGi];exact rk (ha.rep t)
theorem zVb{Q:Exit->Sl->List Ob->Prop}{c:Code}(id k n:Nat){o:Option Nat}{e:TypeId}{xs:List D}(hk:get σ k=.p (rowP o n))(ho:η[id]?=some (.bx o (some e) (xs.map .d)))(hn:n=xs.length)(hnm:n<=maxLen)(hf:∀d∈xs,d.flat=[d])(hro:Nat.ble C.ro id=true)
  (h:awp C c Q ((k,.buf id n)::zGY id σ) ((zGM id η).set id (.buf true e 1 xs))):awp C c Q σ η:=by
 intro R hR a w hab
 exact h R hR a w (hab.torow id k n hk ho hn hnm hf (qAO hro))
end
def upC(l:List Oper)(es:List Nat)(j:Nat): Nat:=(es.filter fun e=>!zGX l.toArray l.length e j).length
def zN9(C:Ctx)(l:List Oper)(es:List Nat)(ηs:List (List Ob))(j:Nat)(o:Oper)(s:SV)(σ:Sl): Prop:=match idxC es j with
 |some i=>∀τ,(∀t,t∈o.looksAt l.toArray->get τ t=get σ t)->EStep C o (fun σ' η'=>σ'=put τ o.dst s/\η'=ηs.getD (i+1) []) τ (ηs.getD i [])
 |none=>YAll C σ o s ((ηs.take (upC l es j+1)).drop (lowC l es j))
def segS(C:Ctx)(l:List Oper)(es:List Nat)(ηs:List (List Ob)): Nat->List Oper->List SV->Sl->Prop
 |j,o::r,s::ss,σ=>(o.guard=none/\zEg C.N o.dst/\zN9 C l es ηs j o s σ)/\segS C l es ηs (j+1) r ss (put σ o.dst s)
 |_,_,_,_=>True
theorem zTq{C:Ctx}{l:List Oper}{es:List Nat}{ηs:List (List Ob)}: ∀(r:List Oper) (ss:List SV) (j:Nat) (σ:Sl),segS C l es ηs j r ss σ->∀(i:Nat) o s,r[i]?=some o->ss[i]?=some s->
  o.guard=none/\zEg C.N o.dst/\match idxC es (j+i)with
   |some k=>∀τ,(∀t,t∈o.looksAt l.toArray->get τ t=get (pst σ j r ss (fun m=>decide (m<j+i))) t)->EStep C o (fun σ' η'=>σ'=put τ o.dst s/\η'=ηs.getD (k+1) []) τ (ηs.getD k [])
   |none=>∀(q:Nat) (η:List Ob),lowC l es (j+i)<=q->q<=upC l es (j+i)->ηs[q]?=some η->∀τ,(∀x∈o.op.operands,oval τ x=oval (pst σ j r ss (fun m=>decide (m<j+i))) x)->Ylds C.P η τ o s
 |_,[],_,_,_,i,o,s,_,hs=>by simp at hs
 |[],_::_,_,_,_,i,o,s,ho,_=>by simp at ho
 |o::r,s::ss,j,σ,h,0,o',s',ho,hs=>by
  simp at ho hs;subst ho;subst hs
  have e0:∀t,get (pst σ j (o::r) (s::ss) (fun m=>decide (m<j+0))) t=get σ t:=by
   intro t
   have:=zCW t (o::r) (s::ss) σ σ j (fun m=>decide (m<j+0)) (fun _=>false) rfl (fun i o' hi hne=>by simp at hne)
   rw[this,zD4]
  obtain⟨⟨h1,h2,h4⟩,_⟩:=h
  refine⟨h1,h2,?_⟩
  unfold zN9 at h4
  rw[qA6]at *
  split
  ·rename_i k hk
   rw[hk]at h4
   exact fun τ hτ=>h4 τ fun t ht=>by rw[hτ t ht,e0]
  ·rename_i hk
   rw[hk]at h4
   intro q η hq hq2 hη τ hτ
   refine(h4.get (q-lowC l es j) η ?_).congr fun x hx=>(hτ x hx).trans (zDP (fun t=>by rw[e0]) x)
   rw[qAl,Nat.add_sub_cancel' hq,qAS,if_pos (by omega)];exact hη
 |o::r,s::ss,j,σ,h,i+1,o',s',ho,hs=>by
  have:=zTq r ss (j+1) _ h.2 i o' s' (by simpa using ho) (by simpa using hs)
  have hj:j+(i+1)=j+1+i:=by omega
  have hd:decide (j<j+1+i)=true:=by simp;omega
  simp only[pst,hj,hd]
  exact this
theorem zEd{C:Ctx}{Q:Exit->Sl->List Ob->Prop}{σ:Sl}{η:List Ob}{id:Nat}{l:List Oper}(ss:List SV)(es:List Nat)(ηs:List (List Ob))
  (hm:C.P.follows .mixedOrders=true) (hB:zGQ l=true) (hsl:Nat.ble ss.length l.length=true) (hbar:ss.length=l.length\/zIc l.toArray (l.length-ss.length-1)=true) (hes:(es.all fun e=>Nat.blt e ss.length)=true) (hch:zMZ l es=true)
  (hη:Nat.beq ηs.length (es.length+1)=true) (h0:ηs.getD 0 []=η)
  (hs:segS C l es ηs 0 l ss σ) (h:alex C true l.toArray (l.drop ss.length) (Q .normal) (segσ l (ss.map .y) σ) (ηs.getD es.length [])):awp C (.region id l.toArray true) Q σ η:=by
 intro R hR a w ⟨g,hg⟩
 have hsl:=qAO hsl
 have hη:=qAk hη
 have hd0:Abs C σ η a { w with drawn:=w.drawn+1 }:=⟨g,hg.grow ⟨rfl,rfl,rfl,rfl,rfl,rfl,rfl,qAP _,fun _ _=>rfl,fun _ _ h=>h,fun _ _ h=>.inl h,hg.inv.st⟩⟩
 have hsv:(ss.map SegK.y).map SegK.sv=ss:=by rw[qBt];exact List.map_id ss
 have hat:=zTq l ss 0 σ hs
 have hnd:es.Nodup:=by
  rw[List.nodup_iff_pairwise_ne,List.pairwise_iff_getElem]
  intro i j hi hj hij
  have:=(zGT hch i j _ _ hij (qAB hi) (qAB hj)).1
  omega
 let I:(Nat->Bool)->Act->World->Prop:=fun f a w=>Abs C (pst σ 0 l ss f) (ηs.getD (cntC es f) []) a w
 refine wp_region_any hm (zMF (C:=C) (K:=Q .normal) (fun σ' η' a w hk hab=>hR _ _ _ _ _ hk hab) hB ss.length hsl hbar I ?_ ?_ _ _ a _ (by simp) ?_ ?_ (fun i _ hi=>?_) ?_)
 ·intro f a w hf hI
  refine⟨_,_,h,?_⟩
  have hc:cntC es f=es.length:=by
   unfold cntC
   rw[List.filter_eq_self.2 fun e he=>hf e (by have:=qAb.1 hes e he;simpa using this)]
  simp only[I,hc]at hI
  have:=zJH l (ss.map .y) 0 σ f (fun i hi=>by rw[qAY];exact hf i (by simpa using hi))
  rw[hsv]at this
  rw[this]at hI;exact hI
 ·intro f j o a w hjm hlj hun hcl hdep hI
  obtain⟨s,hsj⟩:∃s,ss[j]?=some s:=⟨_,qAB hjm⟩
  have same:=zIN (σ:=σ) (ss:=ss) hB hlj hun hcl hdep
  have next:=zIO (σ:=σ) hB hlj hsj hun hcl
  obtain⟨hgd,hdst,hop⟩:=hat j o s hlj hsj
  rw[qAY]at hop
  have hcl':∀j o,l.toArray[j]?=some o->f j=true->∀e∈o.after,Region.binds .any e=true->f e.on=true:=fun j o ho=>hcl j o (by simpa using ho)
  have hreach:∀e,zGX l.toArray l.length j e=true->f e=true:=fun e hr=>zCv hcl' l.length j o (by simpa using hlj) hdep hr
  simp only[I]at hI
  split at hop
  ·
   rename_i i hi
   have hei:=zLV es j _ hi
   have hE:=hop
   have hcnt:cntC es f=i:=zQA (fun b x hb=>by
    rcases qBS b i with hlt|heq|hgt
    ·rw[hreach x (zGT hch b i x j hlt hb hei).2];exact(decide_eq_true hlt).symm
    ·subst heq;rw[hb]at hei;injection hei with hei;subst hei;rw[hun];simp
    ·have hr:=(zGT hch i b j x hgt hei hb).2
     cases hfx:f x with
     |false=>exact(decide_eq_false (by omega)).symm
     |true =>
      exfalso
      have hxl:∃ox,l[x]?=some ox:=by
       have hxs:x<ss.length:=by have:=qAb.1 hes x (qAF hb);simpa using this
       exact⟨_,qAB (by omega)⟩
      obtain⟨ox,hox⟩:=hxl
      have:=zCv hcl' l.length x ox (by simpa using hox) (fun e he hbn=>hcl x ox hox hfx e he hbn) hr
      rw[hun]at this;cases this) (by have:=(qAA.1 hei).1;omega)
   rw[hcnt]at hI
   refine .inl ⟨by unfold Region.wanted;rw[hgd],?_⟩
   refine Oper.wp_mono ?_ (hE _ (fun t ht=>same t ht) _ a w hI)
   rintro a' w' ⟨σ',η'',⟨rfl,rfl⟩,hab⟩
   simp only[I,zRX hnd hei hun,hcnt]
   refine hab.le fun t=>.inl ?_
   exact(next t).symm
  ·
   rename_i hi
   have hnm:=zLW hi
   have hlow:lowC l es j<=cntC es f:=by unfold lowC;exact zP9 (f:=fun e=>zGX l.toArray l.length j e) fun k _ hk=>hreach k hk
   have hup:cntC es f<=upC l es j:=by
    unfold upC
    refine zP9 (f:=f) (g:=fun e=>!zGX l.toArray l.length e j) fun e he hfe=>?_
    cases hr:zGX l.toArray l.length e j with
    |false=>rfl
    |true =>
     exfalso
     have hel:e<ss.length:=by have:=qAb.1 hes e he;simpa using this
     have hox:l[e]?=some (l[e]'(by omega)):=qAB (by omega)
     have:=zCv hcl' l.length e _ (by simp[hox]) (fun ed he hbn=>hcl e _ hox hfe ed he hbn) hr
     rw[hun]at this;cases this
   have hlen:cntC es f<ηs.length:=by
    have:cntC es f<=es.length:=qBD _ _
    omega
   have hη2:ηs[cntC es f]?=some (ηs.getD (cntC es f) []):=by
    rw[qAD,qAB hlen];rfl
   have hy:Ylds C.P (ηs.getD (cntC es f) []) (pst σ 0 l ss f) o s:=hop _ _ hlow hup hη2 _ fun x hx=>by
    cases x with
    |tmp t=>show get _ t=get _ t;rw[same t (zBv hx)]
    |_=>rfl
   obtain⟨g,h1⟩:=hI
   refine .inl ⟨by unfold Region.wanted;rw[hgd],?_⟩
   refine hy.wp hdst (fun a' w' hab=>?_) h1
   simp only[I,zRY hnm]
   refine hab.le fun t=>.inl ?_
   exact(next t).symm
 ·refine qAu (qBD _ _) (by simp)
 ·intro j o hj hl
  have hjl:j<l.length:=(qAA.1 hj).1
  rw[qAL,qAK (by simpa using hjl)]at hl
  simp at hl
 ·rw[qAL,qAK (by simpa using hi)]
  simp
 ·have hf0:∀i,i<l.length->(Array.replicate l.toArray.size false).getD i true=false:=fun i hi=>by
   rw[qAL,qAK (by simpa using hi)];simp
  have hc0:cntC es (fun i=>(Array.replicate l.toArray.size false).getD i true)=0:=by
   unfold cntC
   rw[List.filter_eq_nil_iff.2 fun e he=>by rw[hf0 e (by have:=qAb.1 hes e he;simp at this;omega)];simp];rfl
  simp only[I,hc0]
  obtain⟨g,hd0⟩:=hd0
  rw[h0]
  refine⟨g,{ hd0 with rep:=fun t=>?_ }⟩
  rw[zCW t l ss σ σ 0 _ (fun _=>false) rfl (fun i o hi hne=>?_),zD4]
  ·exact hd0.rep t
  ·rw[qAY,hf0 i (qAA.1 hi).1]at hne
   exact absurd rfl hne
section
variable {C:Ctx}{l r:List Oper}{es:List Nat}{ηs:List (List Ob)}{j:Nat}{s:SV}{ss:List SV}{σ:Sl}
theorem zFQ: segS C l es ηs j r [] σ:=by cases r <;> trivial
theorem zYs{o:Oper}(hi:idxC es j=none)(hg:o.guard=none)(hd:zEg C.N o.dst)(h:YAll C σ o s ((ηs.take (upC l es j+1)).drop (lowC l es j)))(hr:segS C l es ηs (j+1) r ss (put σ o.dst s)): segS C l es ηs j (o::r) (s::ss) σ:=by
 refine⟨⟨hg,hd,?_⟩,hr⟩
 unfold zN9;rw[hi];exact h
theorem zV0{o:Oper}: ∀{L:List (List Ob)},(∀η,Ylds C.P η σ o s)->YAll C σ o s L
 |[],_=>trivial
 |η::_,h=>⟨h η,zV0 h⟩
theorem zBN{o:Oper}(hi:idxC es j=none)(hg:o.guard=none)(hd:zEg C.N o.dst)(h:∀η,Ylds C.P η σ o s)(hr:segS C l es ηs (j+1) r ss (put σ o.dst s)): segS C l es ηs j (o::r) (s::ss) σ:=zYs hi hg hd (zV0 h) hr
theorem zDG{o:Oper}(lo up:Nat)(hi:idxC es j=none)(hg:o.guard=none)(hd:zEg C.N o.dst)(hlo:Nat.beq (lowC l es j) lo=true)(hup:Nat.beq (upC l es j) up=true)(h:YAll C σ o s ((ηs.take (up+1)).drop lo))(hr:segS C l es ηs (j+1) r ss (put σ o.dst s)): segS C l es ηs j (o::r) (s::ss) σ :=
 zYs hi hg hd (by rw[qAk hlo,qAk hup];exact h) hr
theorem zIL{t x y ty pos after}{id o n:Nat}{kb:Option Nat}{et:Option TypeId}{b0:Bool}{cs vs:List SV}{s0:SV}{ηi:List Ob}(i:Nat)(hi:idxC es j=some i)(hx:oval σ x=.ptr id o)(hy:oval σ y=s0)(hv:zHw s0=some vs)(ht:zBD C.P t=some (b0,n))(hηi:ηs.getD i []=ηi)(ho:ηi[id]?=some (.bx kb et cs))(hn:Nat.beq vs.length n=true)(hl:Nat.ble (o+n) cs.length=true)(hro:Nat.ble C.ro id=true)
  (hη:ηs.getD (i+1) []=ηi.set id (.bx kb et (cs.take o++vs++cs.drop (o+n)))) (hr:segS C l es ηs (j+1) r ss σ):segS C l es ηs j (⟨none,.store t x y,ty,pos,after,none⟩::r) (s::ss) σ:=by
 refine⟨⟨rfl,trivial,?_⟩,hr⟩
 unfold zN9;rw[hi]
 intro τ hτ
 have ex:∀z:Operand,z∈(Op.store t x y).operands->oval τ z=oval σ z:=fun z hz=>by
  cases z with
  |tmp u=>exact hτ u (zBv hz)
  |_=>rfl
 rw[hηi,hη]
 refine EStep.of (ops:=l.toArray) (zAd (by rw[ex x (by simp[Op.operands])];exact hx) (by rw[ex y (by simp[Op.operands])];exact hy) hv ht ho hn hl hro (zAB ⟨rfl,rfl⟩))
end
structure Rn where
 d:Nat
 e:TypeId
 n:Nat
 cap:Nat
 zd:D
def Rn.cs(p:Rn): List SV:=List.replicate p.cap (.d p.zd)
def Rn.v(p:Rn)(b:Nat): Value:=.slice (some ⟨b,0,none⟩) p.n p.cap
inductive SegR where
 |y (s:SV)
 |mk (p:Rn)
def SegR.sv: SegR->SV
 | .y s=>s
 | .mk _=>.top
def MkOk(P:Program)(o:Oper)(σ:Sl)(p:Rn): Prop :=
 ∃t x y k k' by',o.op=.makeSlice t x y/\oval σ x=.d (.val (.int k (p.n:Int)))/\oval σ y=.d (.val (.int k' (p.cap:Int)))/\p.n<=p.cap/\zBb P t=some p.e/\zA3 P t=some 1/\zKH P p.e=some p.zd/\p.zd.flat=[p.zd]/\zCX P t=some by'/\p.cap*by'<=281474976710656/\p.cap<=281474976710656
def zSA(C:Ctx)(l:List Oper)(η:List Ob): Nat->List Oper->List SegR->Sl->Prop
 |j,o::r,.y s::ks,σ=>((Wants l.toArray σ o.guard true/\Ylds C.P η σ o s)/\zEg C.N o.dst)/\zSA C l η (j+1) r ks (put σ o.dst s)
 |j,o::r,.mk p::ks,σ=>((MkOk C.P o σ p/\o.guard=none/\o.dst=some p.d/\once l j p.d=true)/\zEg C.N o.dst)/\zSA C l η (j+1) r ks (put σ o.dst .top)
 |_,_,[],_=>True
 |_,[],_::_,_=>False
def pnR: List SegR->List Rn
 |[]=>[]
 | .mk p::r=>p::pnR r
 |_::r=>pnR r
def zR8: List Oper->List SegR->Sl->Sl
 |o::r,k::ks,σ=>zR8 r ks (put σ o.dst k.sv)
 |_,_,σ=>σ
def adσR: List Rn->List Nat->Sl->Sl
 |p::r,b::bs,σ=>adσR r bs ((p.d,.d (.val (p.v b)))::σ)
 |_,_,σ=>σ
def adηR: List Rn->List Nat->List Ob
 |p::r,b::bs=>.bx (some b) (some p.e) p.cs::adηR r bs
 |_,_=>[]
def FreshR(C:Ctx)(g:Gh)(w:World)(v:Value)(p:Rn): Prop:=∃b,v=p.v b/\Fresh C g w (.pointer (some ⟨b,0,none⟩)) p.cs p.e
theorem FreshR.grow{C:Ctx}{g g':Gh}{w w':World}{v:Value}{p:Rn}(hst:∀b o,g.St b o->b<w.heap.size)(h:FreshR C g w v p)(k:Grow g w g' w'): FreshR C g' w' v p:=by
 obtain⟨b,h1,h2⟩:=h
 exact⟨b,h1,h2.grow hst k⟩
theorem zK9{C:Ctx}{l:List Oper}{η:List Ob}: ∀(r:List Oper) (ks:List SegR) (j:Nat) (σ:Sl),zSA C l η j r ks σ->ks.length<=r.length
 |_,[],_,_,_=>qAQ _
 |[],.y _::_,_,_,h=>h.elim
 |[],.mk _::_,_,_,h=>h.elim
 |_::r,.y _::ks,_,_,h=>Nat.succ_le_succ (zK9 r ks _ _ h.2)
 |_::r,.mk _::ks,_,_,h=>Nat.succ_le_succ (zK9 r ks _ _ h.2)
theorem MkOk.congr{P:Program}{o:Oper}{σ σ':Sl}{p:Rn}(e:∀x∈o.op.operands,oval σ' x=oval σ x)(h:MkOk P o σ p): MkOk P o σ' p:=by
 obtain⟨t,x,y,k,k',by',h1,h2,h3,h4⟩:=h
 exact⟨t,x,y,k,k',by',h1,(e x (by rw[h1];simp[Op.operands])).trans h2,(e y (by rw[h1];simp[Op.operands])).trans h3,h4⟩
theorem zQh{C:Ctx}{l:List Oper}{η:List Ob}: ∀(r:List Oper) (ks:List SegR) (j:Nat) (σ:Sl),zSA C l η j r ks σ->∀(i:Nat) o k,r[i]?=some o->ks[i]?=some k->zEg C.N o.dst/\
  (match k with
  | .y s=>Wants l.toArray (pst σ j r (ks.map SegR.sv) (fun m=>decide (m<j+i))) o.guard true/\Ylds C.P η (pst σ j r (ks.map SegR.sv) (fun m=>decide (m<j+i))) o s
  | .mk p=>MkOk C.P o (pst σ j r (ks.map SegR.sv) (fun m=>decide (m<j+i))) p/\o.guard=none/\o.dst=some p.d/\once l (j+i) p.d=true)
 |_,[],_,_,_,i,o,k,_,hk=>by simp at hk
 |[],_::_,_,_,_,i,o,k,ho,_=>by simp at ho
 |o::r,k::ks,j,σ,h,0,o',k',ho,hk=>by
  simp at ho hk;subst ho;subst hk
  have e0:∀t,get (pst σ j (o::r) ((k::ks).map SegR.sv) (fun m=>decide (m<j+0))) t=get σ t:=by
   intro t
   have:=zCW t (o::r) ((k::ks).map SegR.sv) σ σ j (fun m=>decide (m<j+0)) (fun _=>false) rfl (fun i o' hi hne=>by simp at hne)
   rw[this,zD4]
  cases k with
  |y s =>
   obtain⟨⟨⟨h1,h2⟩,h3⟩,_⟩:=h
   exact⟨h3,h1.congr e0,h2.congr fun x _=>zDP e0 x⟩
  |mk p =>
   obtain⟨⟨⟨h1,h2,h3,h4⟩,h5⟩,_⟩:=h
   exact⟨h5,h1.congr fun x _=>zDP e0 x,h2,h3,h4⟩
 |o::r,k::ks,j,σ,h,i+1,o',k',ho,hk=>by
  have hr:zSA C l η (j+1) r ks (put σ o.dst k.sv):=by cases k <;> exact h.2
  have:=zQh r ks (j+1) _ hr i o' k' (by simpa using ho) (by simpa using hk)
  have hj:j+(i+1)=j+1+i:=by omega
  have hd:decide (j<j+1+i)=true:=by simp;omega
  simp only[qAr,pst,hj,hd]
  exact this
theorem zN7: ∀(r:List Oper) (ks:List SegR) (j:Nat) (σ:Sl) (f:Nat->Bool),(∀i,i<ks.length->f (j+i)=true)->pst σ j r (ks.map SegR.sv) f=zR8 r ks σ
 |_,[],_,_,_,_=>by simp[pst,zR8]
 |[],_::_,_,_,_,_=>by simp[pst,zR8]
 |o::r,k::ks,j,σ,f,h=>by
  have h0:=h 0 (by simp)
  rw[qA6]at h0
  simp only[qAr,pst,h0,zR8]
  exact zN7 r ks (j+1) _ f fun i hi=>by have:=h (i+1) (by simpa using hi);rw[show j+1+i=j+(i+1) by omega];exact this
theorem zM7: ∀{ks:List SegR} {p:Rn},p∈pnR ks->∃j:Nat,ks[j]?=some (.mk p)
 |[],_,h=>by simp[pnR]at h
 | .y _::ks,p,h=>by obtain⟨j,hj⟩:=zM7 (ks:=ks) h;exact⟨j+1,by simpa using hj⟩
 | .mk q::ks,p,h=>by
  rcases qBL.1 h with h|h
  ·exact⟨0,by rw[h];rfl⟩
  ·obtain⟨j,hj⟩:=zM7 (ks:=ks) h;exact⟨j+1,by simpa using hj⟩
theorem zM6{R:Rn->Rn->Prop}: ∀(ks:List SegR),(∀(i j:Nat) p q,ks[i]?=some (.mk p)->ks[j]?=some (.mk q)->i≠j->R p q)->(pnR ks).Pairwise R
 |[],_=>List.Pairwise.nil
 | .y _::ks,h=>zM6 ks fun i j p q hi hj hne=>h (i+1) (j+1) p q (by simpa using hi) (by simpa using hj) (by omega)
 | .mk p::ks,h=>List.Pairwise.cons (fun q hq=>by
   obtain⟨j,hj⟩:=zM7 hq
   exact h 0 (j+1) p q rfl (by simpa using hj) (by omega)) (zM6 ks fun i j p q hi hj hne=>h (i+1) (j+1) p q (by simpa using hi) (by simpa using hj) (by omega))
theorem AbsG.adoptR{C:Ctx}{g:Gh}{σ:Sl}{η:List Ob}{a:Act}{w:World}(h:AbsG C g σ η a w){p:Rn}{b:Nat}(hv:a.tmps.getD p.d undef=p.v b)(hf:Fresh C g w (.pointer (some ⟨b,0,none⟩)) p.cs p.e):
  ∃g',AbsG C g' ((p.d,.d (.val (p.v b)))::σ) (η++[.bx (some b) (some p.e) p.cs]) a w/\g'.St=g.St/\(∀id c,g'.blk id=some c->g.blk id=some c\/c=b)/\∀{v:Value} {s:SV},RepS g w v s->RepS g' w v s:=by
 obtain⟨b',us,f1,f2,z1,z2,z3,f3,f4,f5,f6⟩:=hf
 have:b=b':=by injection f1 with f1;injection f1 with f1;injection f1
 subst this
 have hn:=h.inv.n
 let g':Gh:={ g with blk:=upd g.blk g.n (some b),n:=g.n+1 }
 have hold:∀id,id<g.n->g'.blk id=g.blk id/\g'.cap id=g.cap id/\g'.sz id=g.sz id:=fun id hid=>⟨by simp[g',upd,Nat.ne_of_lt hid],rfl,rfl⟩
 have hbn:g'.blk g.n=some b:=by simp[g',upd]
 have hb':∀id c,g'.blk id=some c->(id<g.n/\g.blk id=some c)\/(id=g.n/\c=b):=by
  intro id c hc
  rcases qBS id g.n with hi|hi|hi
  ·rw[(hold id hi).1]at hc;exact .inl ⟨hi,hc⟩
  ·subst hi;rw[hbn]at hc;injection hc with hc;exact .inr ⟨rfl,hc.symm⟩
  ·have hne:id≠g.n:=by omega
   simp only[g',upd,if_neg hne]at hc
   rw[h.inv.dead id (by omega)]at hc;cases hc
 have kp:=Keep.refl g.St w
 have rx:∀{v:Value} {s:SV},RepS g w v s->RepS g' w v s:=fun r=>r.ext (g':=g') kp hold (Nat.le_succ _)
 refine⟨g',⟨h.defers,h.size,⟨by rw[qAE];show g.n+1=_;rw[hn];rfl,fun id c hc=>?_,fun id hid=>?_,fun i j c hi hj=>?_,fun id o ho=>?_,h.inv.st,h.inv.gl⟩,h.os,h.tape,h.output,h.wsize,h.heap,h.keep,h.new,fun id c hc hr=>?_,fun u=>?_⟩,rfl,fun id c hc=>?_,rx⟩
 ·rcases hb' id c hc with⟨_,q⟩|⟨_,rfl⟩
  ·exact h.inv.lt id c q
  ·exact f6
 ·have hid:g.n+1<=id:=hid
  have hne:id≠g.n:=by omega
  simp only[g',upd,if_neg hne];exact h.inv.dead id (by omega)
 ·rcases hb' i c hi with⟨q1,q2⟩|⟨q1,q2⟩ <;> rcases hb' j c hj with⟨q3,q4⟩|⟨q3,q4⟩
  ·exact h.inv.inj i j c q2 q4
  ·exact absurd (q4▸q2) (f4 i)
  ·exact absurd (q2▸q4) (f4 j)
  ·omega
 ·rw[List.getElem?_append]at ho
  split at ho
  ·rename_i hc
   exact(h.inv.ob id o ho).ext (g':=g') kp hold (Nat.le_succ _) (by omega) (fun _ _=>⟨rfl,fun _=>Iff.rfl⟩)
  ·rename_i hc
   have hid:id=g.n:=by
    have:=(qAA.1 ho).1
    simp at this;omega
   subst hid
   have:g.n-η.length=0:=by omega
   rw[this]at ho
   simp at ho;subst ho
   exact⟨b,p.e,us,hbn,f2,z1,z2,fun j u s hu hs=>rx (z3 j u s hu hs),f3,fun _ h=>(qBA h).symm,fun _ h=>(qBA h).symm⟩
 ·rcases hb' id c hc with⟨_,q⟩|⟨_,rfl⟩
  ·exact h.own id c q hr
  ·exact .inl f5
 ·rw[zBx]
  split
  ·rename_i e;subst e
   show RepD _ _ _ _
   rw[hv];exact .val _
  ·exact rx (h.rep u)
 ·rcases hb' id c hc with⟨_,q⟩|⟨_,q⟩
  ·exact .inl q
  ·exact .inr q
theorem AbsG.adoptAllR{C:Ctx}{a:Act}{w:World}: ∀(pn:List Rn) (g:Gh) (σ:Sl) (η:List Ob),AbsG C g σ η a w->(∀p∈pn,FreshR C g w (a.tmps.getD p.d undef) p)->
  (pn.Pairwise fun p q=>∀b c,a.tmps.getD p.d undef=p.v b->a.tmps.getD q.d undef=q.v c->b≠c)->∃bs:List Nat,bs.length=pn.length/\Abs C (adσR pn bs σ) (η++adηR pn bs) a w
 |[],g,σ,η,h,_,_=>⟨[],rfl,g,by simpa[adσR,adηR]using h⟩
 |p::r,g,σ,η,h,hf,hp=>by
  obtain⟨hp1,hp2⟩:=List.pairwise_cons.1 hp
  obtain⟨b,hv,hfr⟩:=hf p (by simp)
  obtain⟨g',h1,h2,h3,h4⟩:=h.adoptR hv hfr
  have hrest:∀q∈r,FreshR C g' w (a.tmps.getD q.d undef) q:=fun q hq=>by
   obtain⟨c,hc,b',us,f1,f2,z1,z2,z3,f3,f4,f5,f6⟩:=hf q (by simp[hq])
   refine⟨c,hc,b',us,f1,f2,z1,z2,fun j u s hu hs=>h4 (z3 j u s hu hs),by rw[h2];exact f3,fun id hid=>?_,f5,f6⟩
   have hcb:c=b':=by injection f1 with f1;injection f1 with f1;injection f1
   rcases h3 id b' hid with h5|h5
   ·exact f4 id h5
   ·exact hp1 q hq b c hv hc (by rw[hcb,h5])
  obtain⟨bs,e1,e2⟩:=AbsG.adoptAllR r g' _ _ h1 hrest hp2
  refine⟨b::bs,by simp[e1],?_⟩
  simpa[adσR,adηR,List.append_assoc]using e2
theorem zRx{P:Program}{t e:TypeId}{zd:D}(he:zBb P t=some e)(hs:zA3 P t=some 1)(hz:zKH P e=some zd)(hzl:zd.flat=[zd])(m:Nat):
  ∃i z,P.underlying t=some (.slice e)/\P.info? e=some i/\i.zero=some z/\i.size=1/\(madeCells z.cells (m*i.size)).size=m/\(∀u∈madeCells z.cells (m*i.size),u.oneCell'=true)/\
   ∀(g:Gh) (w:World) (j:Nat) (u:Value) (s:SV),(madeCells z.cells (m*i.size))[j]?=some u->(List.replicate m (SV.d zd))[j]?=some s->RepS g w u s:=by
 obtain⟨e',i,hu,hi,hsz⟩:=zBL hs
 have:e'=e:=by have:=zCE he;rw[hu]at this;injection this with this;injection this
 subst this
 obtain⟨z,hzz,hzs,hz1,hzr⟩:=zIC hi hz
 rw[hzl]at hzs
 have hg0:∀(j:Nat) (u:Value),(madeCells z.cells (m*i.size))[j]?=some u->j<m/\z.cells[0]?=some u:=by
  intro j u hu
  unfold madeCells at hu
  rw[hsz]at hu
  obtain⟨hj,hu⟩:=qAt.1 hu
  simp at hj
  simp only[Array.getElem_map,Array.getElem_range]at hu
  have hm:0<z.cells.size:=by rw[hzs];exact Nat.one_pos
  have h0:j%z.cells.size=0:=by rw[hzs];exact Nat.mod_one j
  refine⟨by omega,?_⟩
  rw[h0,getElem!_pos z.cells 0 hm]at hu
  rw[qAK hm,hu]
 refine⟨i,z,hu,hi,hzz,hsz,by rw[size_madeCells,hsz,Nat.mul_one],fun u hu=>?_,fun g w j u s hu hs=>?_⟩
 ·obtain⟨j,hj⟩:=Array.getElem?_of_mem hu;exact hz1 u (qBE (hg0 j u hj).2)
 ·obtain⟨h1,h2⟩:=hg0 j u hu
  rw[List.getElem?_replicate,if_pos h1]at hs
  injection hs with hs
  subst hs
  exact hzr g.St w 0 u zd h2 (by rw[hzl];rfl)
theorem MkOk.run{C:Ctx}{g:Gh}{σ:Sl}{η:List Ob}{a:Act}{w:World}{o:Oper}{p:Rn}(h:AbsG C g σ η a w)(hm:MkOk C.P o σ p):
  ∃us,(execOp a.eval o).run C.P w=.ok (.value (p.v w.heap.size)) (w.alloc (.cells us p.e))/\us.size=p.cs.length/\(∀u∈us,u.oneCell'=true)/\∀(g:Gh) (w:World) (j:Nat) (u:Value) (s:SV),us[j]?=some u->p.cs[j]?=some s->RepS g w u s:=by
 obtain⟨t,x,y,k,k',by',h1,h2,h3,h4,h5,h6,h7,h8,h9,h10,h11⟩:=hm
 obtain⟨i,z,hu,hi,hzz,hsz,m1,m2,m3⟩:=zRx h5 h6 h7 h8 p.cap
 have hby:i.bytes=by':=by
  obtain⟨e2,i2,q1,q2,q3⟩:=zDh h9
  rw[hu]at q1;injection q1 with q1;injection q1 with q1;subst q1
  rw[hi]at q2;injection q2 with q2;subst q2;exact q3
 have hxr:=h.eval x;rw[h2]at hxr
 have hyr:=h.eval y;rw[h3]at hyr
 have hrun:=run_make (P:=C.P) w t p.e i z hu hi hzz k k' p.n p.cap (by omega) (by omega) (by rw[hby,Int.mul_comm,<-Int.natCast_mul];exact Int.ofNat_le.2 h10) (by omega)
 simp only[qAn]at hrun
 refine⟨_,?_,by rw[m1,Rn.cs,qAp],m2,m3⟩
 simp only[execOp,h1,Sem.run_bind,RepD.val_eq hxr,RepD.val_eq hyr,hrun];rfl
theorem zVg{C:Ctx}{Q:Exit->Sl->List Ob->Prop}{σ:Sl}{η:List Ob}{id:Nat}{l:List Oper}(ks:List SegR)(hm:C.P.follows .mixedOrders=true)(hB:zGQ l=true)
  (hbar:ks.length=l.length\/zIc l.toArray (l.length-ks.length-1)=true) (hs:zSA C l η 0 l ks σ)
  (h:∀bs:List Nat,bs.length=(pnR ks).length->alex C true l.toArray (l.drop ks.length) (Q .normal) (adσR (pnR ks) bs (zR8 l ks σ)) (η++adηR (pnR ks) bs)):awp C (.region id l.toArray true) Q σ η:=by
 intro R hR a w ⟨g,hg⟩
 have hd:Abs C σ η a { w with drawn:=w.drawn+1 }:=⟨g,hg.grow ⟨rfl,rfl,rfl,rfl,rfl,rfl,rfl,qAP _,fun _ _=>rfl,fun _ _ h=>h,fun _ _ h=>.inl h,hg.inv.st⟩⟩
 have hkl:=zK9 l ks 0 σ hs
 have hat:=zQh l ks 0 σ hs
 let I:(Nat->Bool)->Act->World->Prop:=fun f a w=>∃g,AbsG C g (pst σ 0 l (ks.map SegR.sv) f) η a w/\(∀(j:Nat) p,ks[j]?=some (.mk p)->f j=true->FreshR C g w (a.tmps.getD p.d undef) p)/\
  (∀(i j:Nat) p q,ks[i]?=some (.mk p)->ks[j]?=some (.mk q)->i≠j->f i=true->f j=true->∀b c,a.tmps.getD p.d undef=p.v b->a.tmps.getD q.d undef=q.v c->b≠c)
 have hlk:∀{j:Nat} {k:SegR},ks[j]?=some k->∃o,l[j]?=some o:=fun hk=>⟨_,qAB (qAa (qAA.1 hk).1 hkl)⟩
 refine wp_region_any hm (zMF (C:=C) (K:=Q .normal) (fun σ' η' a w hk hab=>hR _ _ _ _ _ hk hab) hB ks.length hkl hbar I ?_ ?_ _ _ a _ (by simp) ?_ ?_ (fun i _ hi=>?_) ?_)
 ·intro f a w hf ⟨g,h1,h2,h3⟩
  rw[zN7 l ks 0 σ f (fun i hi=>by rw[qAY];exact hf i hi)]at h1
  obtain⟨bs,e1,e2⟩:=h1.adoptAllR _ _ _ _ (fun p hp=>by
   obtain⟨j,hj⟩:=zM7 hp
   exact h2 j p hj (hf j (qAA.1 hj).1)) (zM6 ks fun i j p q hi hj hne=>h3 i j p q hi hj hne (hf i (qAA.1 hi).1) (hf j (qAA.1 hj).1))
  exact⟨_,_,h bs e1,e2⟩
 ·intro f j o a w hjm hlj hun hcl hdep ⟨g,h1,h2,h3⟩
  obtain⟨k,hk⟩:∃k,ks[j]?=some k:=⟨_,qAB hjm⟩
  have hkk:=hat j o k hlj hk
  rw[qAY]at hkk
  have same:=zIN (σ:=σ) (ss:=ks.map SegR.sv) hB hlj hun hcl hdep
  have hsk:(ks.map SegR.sv)[j]?=some k.sv:=by rw[qAH,hk];rfl
  have next:=zIO (σ:=σ) hB hlj hsk hun hcl
  have stay:∀(i:Nat) p v,ks[i]?=some (.mk p)->i≠j->(a.put o.dst v).tmps.getD p.d undef=a.tmps.getD p.d undef:=by
   intro i p v hi hne
   obtain⟨o',hli⟩:=hlk hi
   have hon:=(hat i _ _ hli hi).2.2.2.2
   rw[qAY]at hon
   have hne2:=zLN hon hlj (fun e=>hne e.symm)
   cases hod:o.dst with
   |none=>rfl
   |some e =>
    have:e≠p.d:=fun h=>hne2 (by rw[hod,h])
    simp[Act.put,Array.getD_eq_getD_getElem?,Array.getElem?_setIfInBounds_ne this]
  have hmk:∀i,(i==j||f i)=true->i≠j->f i=true:=fun i h hne=>by
   have:(i==j)=false:=by simpa using hne
   simpa[this]using h
  cases k with
  |y s =>
   left
   obtain⟨hdst,hw,hy⟩:=hkk
   refine⟨hw.wanted (g:=g) (w:=w) fun t q b hgd ht=>by rw[<-same t (zFI hgd ht)];exact h1.rep t,?_⟩
   have hy':Ylds C.P η (pst σ 0 l (ks.map SegR.sv) f) o s:=hy.congr fun x hx=>by
    cases x with
    |tmp t=>exact same t (zBv hx)
    |_=>rfl
   have fin:∀v g' w',Grow g w g' w'->RepS g' w' v s->I (fun i=>i==j||f i) (a.put o.dst v) w':=fun v g' w' hgr hr=>by
    have hab:=(h1.grow hgr).put hdst hr
    refine⟨g',hab.get_eq fun t=>.inl (next t).symm,fun i p hi hfi=>?_,fun i i2 p q hi hi2 hne hf1 hf2=>?_⟩
    ·have hne:i≠j:=fun e=>by subst e;rw[hk]at hi;cases hi
     rw[stay i p v hi hne]
     exact(h2 i p hi (hmk i hfi hne)).grow h1.inv.st hgr
    ·have hne1:i≠j:=fun e=>by subst e;rw[hk]at hi;cases hi
     have hne2:i2≠j:=fun e=>by subst e;rw[hk]at hi2;cases hi2
     rw[stay i p v hi hne1,stay i2 q v hi2 hne2]
     exact h3 i i2 p q hi hi2 hne (hmk i hf1 hne1) (hmk i2 hf2 hne2)
   unfold Oper.wp
   rcases hy' g w a h1.inv (fun x _=>h1.eval x)with⟨v,g',w',hr,hg,hs'⟩|⟨fn,args,hr,hc⟩
   ·rw[hr];exact fin v g' w' hg hs'
   ·rw[hr,Oper.upon_enter]
    refine hc.mono fun e w' ⟨v,g',he,hg,hs'⟩=>?_
    subst he
    exact fin v g' w' hg hs'
  |mk p =>
   left
   obtain⟨hdst,q1,q2,q3,q4⟩:=hkk
   refine⟨by unfold Region.wanted;rw[q2],?_⟩
   have q1':MkOk C.P o (pst σ 0 l (ks.map SegR.sv) f) p:=q1.congr fun x hx=>by
    cases x with
    |tmp t=>exact same t (zBv hx)
    |_=>rfl
   obtain⟨us,hrun,u1,u2,u3⟩:=q1'.run h1
   have hgr:Grow g w g (w.alloc (.cells us p.e)):=⟨rfl,rfl,rfl,rfl,rfl,rfl,rfl,by simp,fun k hk=>Below.heap_alloc w _ k hk,fun _ _ h=>h,fun _ _ h=>.inl h,fun b o hb=>qAa (h1.inv.st b o hb) (by simp)⟩
   unfold Oper.wp
   rw[hrun]
   have hab:=(h1.grow hgr).put (d:=o.dst) (v:=p.v w.heap.size) (s:=.top) hdst trivial
   have hnew:(a.put o.dst (p.v w.heap.size)).tmps.getD p.d undef=p.v w.heap.size:=by
    rw[q3]
    have hlt:p.d<a.tmps.size:=by rw[q3]at hdst;rw[h1.size];simpa[zEg,Nat.blt_eq]using hdst
    simp[Act.put,hlt]
   have hold:∀(i:Nat) q,ks[i]?=some (.mk q)->f i=true->∀c,a.tmps.getD q.d undef=q.v c->c<w.heap.size:=fun i q hi hfi c hc=>by
    obtain⟨c',e1,b,us,f1,_,_,_,_,_,_,_,f6⟩:=h2 i q hi hfi
    have:c=c':=by rw[hc]at e1;simp only[Rn.v]at e1;injection e1 with e1;injection e1 with e1;injection e1
    have:c'=b:=by injection f1 with f1;injection f1 with f1;injection f1
    omega
   have vinj:∀{q:Rn} {b c:Nat},q.v b=q.v c->b=c:=fun e1=>by simp only[Rn.v]at e1;injection e1 with e1;injection e1 with e1;injection e1
   refine⟨g,hab.get_eq fun t=>.inl (next t).symm,fun i q hi hfi=>?_,fun i i2 q q' hi hi2 hne hf1 hf2 b c hb hc=>?_⟩
   ·by_cases hij:i=j
    ·subst hij
     rw[hk]at hi;injection hi with hi;injection hi with hi;subst hi
     rw[hnew]
     exact⟨w.heap.size,rfl,w.heap.size,us,rfl,_root_.Go.heap_alloc_new w _,u1,u2,fun jj u s hu hs=>u3 _ _ jj u s hu hs,fun o ho=>absurd (h1.inv.st _ o ho) (by omega),fun id hid=>absurd (h1.inv.lt id _ hid) (by omega),h1.wsize,by simp⟩
    ·rw[stay i q _ hi hij]
     exact(h2 i q hi (hmk i hfi hij)).grow h1.inv.st hgr
   ·by_cases hij:i=j
    ·have hij2:i2≠j:=fun e=>hne (hij.trans e.symm)
     subst hij
     rw[hk]at hi;injection hi with hi;injection hi with hi;subst hi
     rw[hnew]at hb
     rw[stay i2 q' _ hi2 hij2]at hc
     have h5:=hold i2 q' hi2 (hmk i2 hf2 hij2) c hc
     have h6:=vinj hb
     omega
    ·by_cases hij2:i2=j
     ·subst hij2
      rw[hk]at hi2;injection hi2 with hi2;injection hi2 with hi2;subst hi2
      rw[hnew]at hc
      rw[stay i q _ hi hij]at hb
      have h5:=hold i q hi (hmk i hf1 hij) b hb
      have h6:=vinj hc
      omega
     ·rw[stay i q _ hi hij]at hb
      rw[stay i2 q' _ hi2 hij2]at hc
      exact h3 i i2 q q' hi hi2 hne (hmk i hf1 hij) (hmk i2 hf2 hij2) b c hb hc
 ·refine qAu (qBD _ _) (by simp)
 ·intro j o hj hl
  have hjl:j<l.length:=(qAA.1 hj).1
  rw[qAL,qAK (by simpa using hjl)]at hl
  simp at hl
 ·rw[qAL,qAK (by simpa using hi)]
  simp
 ·obtain⟨g',hg'⟩:=hd
  have hf0:∀i,i<l.length->(Array.replicate l.toArray.size false).getD i true=false:=fun i hi=>by
   rw[qAL,qAK (by simpa using hi)];simp
  refine⟨g',hg'.get_eq fun t=>.inl ?_,fun j p hj hf=>?_,fun i j p q hi _ _ hf _=>?_⟩
  ·rw[zCW t l (ks.map SegR.sv) σ σ 0 _ (fun _=>false) rfl (fun i o hi hne=>?_),zD4]
   rw[qAY,hf0 i (qAA.1 hi).1]at hne
   exact absurd rfl hne
  ·have:=hf0 j (by have:=(qAA.1 hj).1;omega)
   simp only[this]at hf;cases hf
  ·have:=hf0 i (by have:=(qAA.1 hi).1;omega)
   simp only[this]at hf;cases hf
theorem Abs.cellrow{C:Ctx}{σ:Sl}{η:List Ob}{a:Act}{w:World}(id q j n cap b:Nat){e:TypeId}{cs:List SV}{xs:List D}{kq:Option Nat}{eq:Option TypeId}{cq:List SV}(ho:η[id]?=some (.bx (some b) (some e) cs))(hq:η[q]?=some (.bx kq eq cq))(hne:Nat.beq q id=false)(hc:cq[j]?=some (.d (.val (.slice (some ⟨b,0,none⟩) n cap))))
  (hl:cs.length=cap) (hx:xs.map SV.d=cs.take xs.length) (hxl:xs.length<=cap) (hm:cap<=maxLen) (hf:∀d∈xs,d.flat=[d]) (h:Abs C σ η a w) :
  Abs C (zGY id σ) (((zGM id η).set id (.buf true e 1 xs)).set q (.bx kq eq ((cq.map (SV.kill id)).set j (.buf id n)))) a w:=by
 obtain⟨g,ha⟩:=h
 have hqi:q≠id:=fun c=>by rw[c]at hne;simp at hne
 have hidl:id<η.length:=(qAA.1 ho).1
 have hql:q<η.length:=(qAA.1 hq).1
 obtain⟨b',e',us,o1,o2,o3,o4,o5,o6,o7,o8⟩:=ha.inv.ob id _ ho
 have he:e=e':=o8 e rfl
 subst he
 have hbb:b=b':=o7 b rfl
 subst hbb
 let g':Gh:={ g with cap:=upd g.cap id cap,sz:=upd g.sz id 1 }
 have rk:∀{v:Value} {s:SV},RepS g w v s->RepS g' w v (s.kill id):=fun r=>RepS.other (g:=g) (g':=g') (id:=id) (Keep.refl g.St w) (fun i hi=>⟨rfl,by simp[g',upd,hi],by simp[g',upd,hi]⟩) rfl r
 have hflat:zCM xs=xs:=by
  have:∀l:List D,(∀d∈l,d.flat=[d])->zCM l=l:=fun l=>by
   induction l with
   |nil=>intro _;rfl
   |cons d r ih=>intro h;show d.flat++zCM r=_;rw[h d (by simp),ih fun x hx=>h x (qAi _ hx)];rfl
  exact this xs hf
 refine⟨g',ha.defers,ha.size,⟨by rw[qAZ,qAZ,zD9];exact ha.inv.n,ha.inv.lt,ha.inv.dead,ha.inv.inj,fun i ob hi=>?_,ha.inv.st,ha.inv.gl⟩,ha.os,ha.tape,ha.output,ha.wsize,ha.heap,ha.keep,ha.new,ha.own,fun t=>by rw[zGi];exact rk (ha.rep t)⟩
 have box:∀{k:Option Nat} {et:Option TypeId} {cs:List SV} {i:Nat},ObOk g w i (.bx k et cs)->ObOk g' w i (.bx k et (cs.map (SV.kill id))):=by
  intro k et cs i hob
  obtain⟨b,e,us,h1,h2,h3,h4,h5,h6,h7⟩:=hob
  refine⟨b,e,us,h1,h2,by rw[qAC];exact h3,h4,fun j u s hu hs=>?_,h6,h7⟩
  rw[qAH]at hs
  cases hcs:cs[j]? with
  |none=>rw[hcs]at hs;cases hs
  |some s0 =>
   rw[hcs]at hs;injection hs with hs;subst hs
   exact rk (h5 j u s0 hu hcs)
 rw[qAX]at hi
 split at hi
 ·rename_i hcq;subst hcq
  rw[if_pos (by rw[qAZ,zD9];exact hql)]at hi
  injection hi with hi;subst hi
  obtain⟨b2,e2,us2,h1,h2,h3,h4,h5,h6,h7⟩:=ha.inv.ob q _ hq
  refine⟨b2,e2,us2,h1,h2,by rw[qAZ,qAC];exact h3,h4,fun jj u s hu hs=>?_,h6,h7⟩
  rw[qAX,qAC]at hs
  split at hs
  ·rename_i hjj;subst hjj
   have hjl:j<cq.length:=(qAA.1 hc).1
   rw[if_pos hjl]at hs
   injection hs with hs;subst hs
   have hr:=h5 j u _ hu hc
   have hu2:u=.slice (some ⟨b,0,none⟩) n cap:=RepD.val_eq hr
   refine⟨by show id<g.n;rw[ha.inv.n];exact hidl,?_⟩
   rw[hu2]
   simp[g',upd,o1]
  ·rw[qAH]at hs
   cases hcs:cq[jj]? with
   |none=>rw[hcs]at hs;cases hs
   |some s0 =>
    rw[hcs]at hs;injection hs with hs;subst hs
    exact rk (h5 jj u s0 hu hcs)
 ·rw[qAX]at hi
  split at hi
  ·rename_i hc;subst hc
   rw[if_pos (by rw[zD9];exact hidl)]at hi
   injection hi with hi;subst hi
   refine⟨by simp[g',upd],fun d hd=>by rw[hf d hd];rfl,by simp only[g',upd,if_true];exact hm,by simp only[g',upd,if_true];exact hxl,.inr ⟨b,us,o1,o2,by simp only[g',upd,if_true];omega,fun j u hj hu=>o4 u (qBE hu),fun j u d hu hd=>?_,fun o=>⟨fun h=>absurd h (o6 o),fun h=>by cases h.1⟩⟩⟩
   rw[hflat]at hd
   refine o5 j u (.d d) hu ?_
   have hjl:=(qAA.1 hd).1
   have:(xs.map SV.d)[j]?=some (.d d):=by rw[qAH,hd];rfl
   rw[hx,qAS,if_pos hjl]at this
   exact this
  ·rename_i hc
   rw[zH5]at hi
   cases hη:η[i]? with
   |none=>rw[hη]at hi;cases hi
   |some o0 =>
    rw[hη]at hi
    injection hi with hi
    subst hi
    have hob:=ha.inv.ob i _ hη
    cases o0 with
    |bx k et cs=>exact box hob
    |buf mu e sz xs =>
     have hne:¬i=id:=fun c=>hc c.symm
     obtain⟨h1,h2,h3,h4,h5⟩:=hob
     exact⟨by simp only[g',upd,if_neg hne];exact h1,h2,by simp only[g',upd,if_neg hne];exact h3,by simp only[g',upd,if_neg hne];exact h4,by simp only[g',upd,if_neg hne];exact h5⟩
    |iter s pos=>exact hob
    |mapq q k l=>exact hob
    |miter m since seen st =>
     simp only[Ob.kill]
     split
     ·trivial
     ·exact hob
    |gone=>trivial
theorem zI7{C:Ctx}{σ:Sl}{η:List Ob}{Q:Exit->Sl->List Ob->Prop}{c:Code}(id q j n cap b:Nat){e:TypeId}{cs:List SV}{xs:List D}{kq:Option Nat}{eq:Option TypeId}{cq:List SV}(ho:η[id]?=some (.bx (some b) (some e) cs))(hq:η[q]?=some (.bx kq eq cq))(hne:Nat.beq q id=false)(hc:cq[j]?=some (.d (.val (.slice (some ⟨b,0,none⟩) n cap))))
  (hl:cs.length=cap) (hx:xs.map SV.d=cs.take xs.length) (hxl:xs.length<=cap) (hm:cap<=maxLen) (hf:∀d∈xs,d.flat=[d])
  (h:awp C c Q (zGY id σ) (((zGM id η).set id (.buf true e 1 xs)).set q (.bx kq eq ((cq.map (SV.kill id)).set j (.buf id n))))):awp C c Q σ η:=by
 intro R hR a w hab
 exact h R hR a w (hab.cellrow id q j n cap b ho hq hne hc hl hx hxl hm hf)
section
variable {P:Program}{η:List Ob}{σ:Sl}{dst:Option Nat}{ty:TypeId}{pos:String}{after:Array Edge}{gd:Option (Nat×Bool)}{x:Operand}
theorem zVt{id n:Nat}(h:oval σ x=.buf id n): Ylds P η σ ⟨dst,.move x,ty,pos,after,gd⟩ (.bsl id 0 n):=by
 refine Ylds.same fun g w a hi hr=>?_
 have h1:=hr x (by simp[Op.operands])
 rw[h]at h1
 exact⟨_,by simp only[execOp,Sem.run_pure],h1.bsl0⟩
end
open Go.Lib
section
variable {P:Program}{η:List Ob}{σ:Sl}{dst:Option Nat}{ty:TypeId}{pos:String}{after:Array Edge}{gd:Option (Nat×Bool)}{t yt:TypeId}{x y z:Operand}
theorem zfE{e src tdst:TypeId}{l:List UInt8}(hc:Co η (oval σ x) (.slice (bys l)))(hs:P.underlying src=some (.slice e))(he:P.underlying e=some (.int .u8))(hd:P.underlying tdst=some .string):
  Ylds P η σ ⟨dst,.convert src tdst x,ty,pos,after,gd⟩ (.d (str l)):=by
 refine Ylds.same fun g w a hi h=>?_
 have h1:=Co.rep hi (h x (by simp[Op.operands])) hc
 generalize hv:a.eval x=v at h1
 cases h1 with
 |slice ad len cap sz _ us hlen hcap hm hsz hus h1c hcell hr =>
  rw[zLn]at hlen hcell
  have hul:us.length=l.length:=by rw[hus,zO3,zLn]
  cases ad with
  |none =>
   have hl:l=[]:=by
    cases l with
    |nil=>rfl
    |cons c r=>obtain⟨ad,h2,_⟩:=hcell (by simp);cases h2
   subst hl
   refine⟨_,?_,.val _⟩
   simp only[execOp,hv,Sem.run_bind,run_convert_bytes_string w src tdst e none len cap hs he hd]
   rfl
  |some ad =>
   have hc':∀(j:Nat) (u:Value),us[j]?=some u->w.cell? (ad.add j)=some u:=fun j u hj=>by
    have hjl:=(qAA.1 hj).1
    obtain⟨ad',h2,h3⟩:=hcell (by omega)
    cases h2;exact(h3 j u hj).2
   have eus:us=(l.map fun b=>(b.toNat:Int)).map (Value.int .u8):=by
    refine qBm fun j=>?_
    rcases qAR j l.length with hj|hj
    ·have e1:us[j]?=some (us[j]'(by omega)):=qAB (by omega)
     have e2:(zCM (bys l))[j]?=some (.val (.int .u8 (l[j]).toNat)):=by rw[zO3,bys,qAH,qAB hj];rfl
     rw[e1,RepD.val_eq (hr j _ _ e1 e2),qAH,qAH,qAB hj];rfl
    ·rw[qAv (by omega),qAv (by simp;omega)]
   have hld:=run_loadCells_list (P:=P) w ad us hc'
   refine⟨_,?_,.val _⟩
   have hlen':len=us.length:=by rw[hlen,hul]
   simp only[execOp,hv,Sem.run_bind,run_convert_bytes_string w src tdst e (some ad) len cap hs he hd]
   rw[run_bytesToString w ad len cap (l.map fun b=>(b.toNat:Int)) (by rw[hlen',hld,eus])]
   simp only[Result.andThen_ok,Sem.run_pure,zI5]
   have:l.map ((fun n:Int=>UInt8.ofNat n.toNat) ∘ fun b:UInt8=>(b.toNat:Int))=l:=by
    conv=>rhs;rw[<-List.map_id l]
    refine qBg fun b _=>?_
    simp
   simp[this]
end
end Go.Sx
namespace Go.Sx
theorem zL0{e sz:Nat}(xs:List D)(n:Nat): WOb (.buf true e sz (xs.take n)) (.buf true e sz xs):=by
 intro g w id h
 obtain⟨o1,o2,o3,o4,o5⟩:=h
 have hle:(xs.take n).length<=xs.length:=by rw[qAG];omega
 have hm:(xs.take n).length*sz<=xs.length*sz:=qAh _ hle
 refine⟨o1,fun x hx=>o2 x (qAW hx),o3,by omega,?_⟩
 rcases o5 with h1|⟨b,us,h1,h2,h3,h4,h5,h6⟩
 ·exact .inl h1
 ·refine .inr ⟨b,us,h1,h2,h3,fun j u hj=>h4 j u (by omega),fun j u d hu hd=>h5 j u d hu ?_,fun o=>by rw[h6];simp⟩
  rw[zEN o2]at hd
  rw[qAS]at hd
  split at hd
  ·exact hd
  ·cases hd
open Go.RowKit
def isB(v:Value): Prop:=∃b,v=.bool b
section
variable {P:Program}{η:List Ob}{σ:Sl}{dst:Option Nat}{ty:TypeId}{pos:String}{after:Array Edge}{gd:Option (Nat×Bool)}{t yt:TypeId}{x y:Operand}
theorem zEf{id i o n e sz:Nat}{mu:Bool}{xs:List D}{d:D}{ds:List D}(hx:oval σ x=.bptr id i o)(ht:zBD P t=some (true,n))(ho:η[id]?=some (.buf mu e sz xs))(hd:xs[i]?=some d)(hds:(d.flat.drop o).take n=ds)(hn:Nat.beq ds.length n=true)(hp:Nat.blt 0 n=true):
  Ylds P η σ ⟨dst,.load t x,ty,pos,after,gd⟩ (.d (.agg ds)):=by
 have hn:=qAk hn
 have hp:0<n:=by simpa using hp
 subst hds
 refine Ylds.same fun g w a hi h=>?_
 have h1:=h x (by simp[Op.operands]);rw[hx]at h1
 obtain⟨hid,b,hb,hv⟩:=h1
 obtain⟨hgs,hf,_,hcl,hbo⟩:=hi.ob id _ ho
 have hil:i<xs.length:=(qAA.1 hd).1
 have hfd:=hf d (qAF hd)
 have hln:o+n<=sz:=by rw[qAG,qAd]at hn;omega
 have hmul:(i+1)*sz<=xs.length*sz:=qAh _ hil
 rw[qAx]at hmul
 rcases hbo with⟨h0,_⟩|⟨b',us,h2,h3,h4,h5,h6,_⟩
 ·rw[hb]at h0;cases h0
 ·rw[hb]at h2;injection h2 with h2;subst h2
  have hmul2:xs.length*sz<=g.cap id*sz:=qAh _ hcl
  have hrun:=run_loadCells_list (P:=P) w ⟨b,i*sz+o,none⟩ ((us.toList.drop (i*sz+o)).take n) (fun j v hj=>by
   rw[qAS]at hj
   split at hj
   ·rw[Addr.add_lit,cell_of_row w b _ us e (0,0) h3]
    simpa using hj
   ·cases hj)
  have hlen:((us.toList.drop (i*sz+o)).take n).length=n:=by rw[qAG,qAd,qAT];omega
  rw[hlen]at hrun
  refine⟨.agg ((us.toList.drop (i*sz+o)).take n).toArray,?_,.agg _ _ (by omega) (fun u hm=>?_) (fun j u d' hj hd'=>?_)⟩
  ·simp only[execOp,hv,hgs,Instr.loadAt,Instr.sureAddr,loadVar,Sem.run_bind,Sem.run_pure,Result.andThen_ok,(zB8 ht w).1,(zB8 ht w).2,if_true,hrun]
  ·obtain⟨j,hj⟩:=List.getElem?_of_mem hm
   have hjl:j<n:=by have:=(qAA.1 hj).1;omega
   rw[qAS,if_pos hjl,qAl]at hj
   exact h5 (i*sz+o+j) u (by omega) (by simpa using hj)
  ·have hjl:j<n:=by have:=(qAA.1 hj).1;omega
   rw[qAS,if_pos hjl,qAl]at hj hd'
   refine h6 (i*sz+(o+j)) u d' (by rw[<-Nat.add_assoc];simpa using hj) ?_
   exact(zGj hf hd (by omega)).trans hd'
theorem zLC(w:World){e:TypeId}(he:zBb P t=some e)(o:Option Addr)(n c:Nat): ∃b,(do eqGuard .eql t x y (.slice o n c) (.slice none 0 0);binOp .eql t (.slice o n c) (.slice none 0 0):Sem Value).run P w=.ok (.bool b) w/\(o≠none->b=false):=by
 have hg:(eqGuard .eql t x y (.slice o n c) (.slice none 0 0)).run P w=.ok () w:=by first|rfl|simp[eqGuard]|simp[go_sem]
 have:=run_equal_slice_nil (P:=P) (w:=w) t e o n c (zCE he)
 cases o with
 |none=>exact⟨true,by simp only[Sem.run_bind,hg,Result.andThen_ok];simp[go_sem,binOp,this],fun h=>absurd rfl h⟩
 |some ad=>exact⟨false,by simp only[Sem.run_bind,hg,Result.andThen_ok];simp[go_sem,binOp,this],fun _=>rfl⟩
theorem zYa{id n:Nat}(hx:oval σ x=.buf id n)(hy:oval σ y=.nil)(hu:(zBb P t).isSome=true): Ylds P η σ ⟨dst,.binOp .eql t x y yt,ty,pos,after,gd⟩ (.p isB):=by
 obtain⟨e,he⟩:=qBB.1 hu
 refine Ylds.same fun g w a hi h=>?_
 have h1:=h x (by simp[Op.operands]);rw[hx]at h1
 have h2:=h y (by simp[Op.operands]);rw[hy]at h2
 obtain⟨_,hv⟩:=h1
 change _=_ at h2
 obtain⟨b,hb,_⟩:=zLC (P:=P) (x:=x) (y:=y) w he ((g.blk id).map (⟨·,0,none⟩)) n (g.cap id)
 refine⟨.bool b,?_,b,rfl⟩
 simp only[Sem.run_bind]at hb
 simp only[execOp,hv,h2,Sem.run_bind,hb,Result.andThen_ok,Sem.run_pure]
theorem zVy{id n e sz:Nat}{mu:Bool}{xs:List D}(hx:oval σ x=.buf id n)(hy:oval σ y=.nil)(hu:(zBb P t).isSome=true)(ho:η[id]?=some (.buf mu e sz xs))(hn:n<=xs.length)(h0:0<n): Ylds P η σ ⟨dst,.binOp .eql t x y yt,ty,pos,after,gd⟩ (.d (.val (.bool false))):=by
 obtain⟨e,he⟩:=qBB.1 hu
 refine Ylds.same fun g w a hi h=>⟨.bool false,?_,.val _⟩
 have h1:=h x (by simp[Op.operands]);rw[hx]at h1
 have h2:=h y (by simp[Op.operands]);rw[hy]at h2
 obtain⟨_,hv⟩:=h1
 change _=_ at h2
 obtain⟨_,_,_,hcl,hb⟩:=hi.ob id _ ho
 have hbb:g.blk id≠none:=by
  rcases hb with⟨_,h0'⟩|⟨b,_,hb,_⟩
  ·omega
  ·rw[hb];intro c;cases c
 obtain⟨b,hb,hbf⟩:=zLC (P:=P) (x:=x) (y:=y) w he ((g.blk id).map (⟨·,0,none⟩)) n (g.cap id)
 have:b=false:=hbf (by cases hq:g.blk id with|none=>exact absurd hq hbb|some q=>intro c;cases c)
 subst this
 simp only[Sem.run_bind]at hb
 simp only[execOp,hv,h2,Sem.run_bind,hb,Result.andThen_ok,Sem.run_pure]
end
theorem zGk{C:Ctx}{Q:Exit->Sl->List Ob->Prop}{s σ:Sl}{h η:List Ob}{id:Nat}{l:List Oper}(f:Fits s h σ η)(hw:alex C false l.toArray l (Q .normal) s h): awp C (.region id l.toArray false) Q σ η:=zBW f (zAA hw)
theorem zLt{C:Ctx}{Q:Exit->Sl->List Ob->Prop}{σ:Sl}{η:List Ob}{x:Operand}{c d:Code}(hx:oval σ x=.p isB)(h1:awp C c Q σ η)(h2:awp C d Q σ η): awp C (.cond x c d) Q σ η:=by
 intro R hR a w hab
 obtain⟨g,hg⟩:=hab
 have hv:=hg.eval x
 rw[hx]at hv
 obtain⟨b,e⟩:=hv
 exact wp_cond_split e (fun _=>h1 R hR a w ⟨g,hg⟩) (fun _=>h2 R hR a w ⟨g,hg⟩)
def zCO(P:Program)(f:FuncId)(as:List SV)(pre:List Ob)(n:Nat)(e sz:Nat)(xs:List D): Prop :=
 ∀(g:Gh) (w:World) (vs:List Value),Inv g w pre->RepSs g w vs as->
  Calls P f vs.toArray w (fun r w'=>∃ob cap St',r=.returned (.slice (ob.map (⟨·,0,none⟩)) n cap)/\Below w.heap.size w w'/\Keep g.St w St' w'/\
   (∀b o,St' b o->g.St b o\/w.heap.size<=b)/\(∀b o,St' b o->b<w'.heap.size)/\cap<=maxLen/\xs.length<=cap/\(∀x∈xs,x.flat.length=sz)/\
   ((ob=none/\cap=0)\/∃b us,ob=some b/\w.heap.size<=b/\w'.heap[b]?=some (.cells us e (0,0))/\us.size=cap*sz/\(∀(j:Nat) (u:Value),j<xs.length*sz->us[j]?=some u->u.oneCell'=true)/\
    (∀(j:Nat) (u:Value) (d:D),us[j]?=some u->(zCM xs)[j]?=some d->RepD St' w' u d)/\∀o,¬St' b o))
def zd9(k:Nat)(rs:Array ResultVar)(n e sz:Nat)(xs:List D)(σ:Sl)(η:List Ob): Prop :=
 ∃r,rs = #[.tmp r]/\((get σ r=.nil/\xs=[]/\n=0)\/∃id,Nat.ble k id=true/\get σ r=.buf id n/\η[id]?=some (.buf true e sz xs))
def zCQ(k:Nat)(rs:Array ResultVar)(n e sz:Nat)(xs:List D): Exit->Sl->List Ob->Prop
 | .ret,σ,η=>zd9 k rs n e sz xs σ η
 |_,_,_=>False
theorem zHC{k:Nat}{rs:Array ResultVar}{n e sz:Nat}{xs:List D}{σ:Sl}{η:List Ob}(h:zd9 k rs n e sz xs σ η): zCQ k rs n e sz xs .ret σ η:=h
theorem zRI{P:Program}{f:FuncId}{fn:Func}{c:Code}{as:List SV}{pre:List Ob}{n e sz:Nat}{xs:List D}{N:Nat}{rs:Array ResultVar}(hf:P.funcs[f]?=some fn)(hb:fn.body=some c)(hN:fn.ntmps=N)(hrs:fn.results=rs)(hl:Nat.ble as.length N=true)
  (h:∀(w0:World) (St0:Stab),awp ⟨P,N,w0,St0,fun _=>False,pre.length⟩ c (zCQ pre.length rs n e sz xs) (zHx as 0) pre):zCO P f as pre n e sz xs:=by
 intro g w vs hi hrep
 subst hN
 have hl:=qAO hl
 have hlen:=hrep.len
 refine calls_of_wp hf hb (h w g.St _ ?_ _ _ ?_)
 ·intro ex σ' η' a' w' hq ⟨g',ha⟩
  cases ex with
  |ret =>
   obtain⟨r,rfl,hq⟩:=hq
   have hnew:∀b o,g'.St b o->g.St b o\/w.heap.size<=b:=fun b o hb=>by
    rcases ha.new b o hb with h1|h1|h1
    ·exact .inl h1
    ·exact .inr h1
    ·exact h1.elim
   have hbel:Below w.heap.size w w':=⟨ha.os,ha.tape,ha.output,ha.wsize,fun k hk=>ha.heap k hk (fun h=>h)⟩
   refine⟨ha.defers,_,results_tmp hrs _ _ _,?_⟩
   rcases hq with⟨hq,rfl,rfl⟩|⟨id,hid,hq,ho⟩
   ·have:=ha.rep r;rw[hq]at this
    exact⟨none,0,g'.St,congrArg Ending.returned this,hbel,ha.keep,hnew,ha.inv.st,qAQ _,qAP _,by simp,.inl ⟨rfl,rfl⟩⟩
   ·have:=ha.rep r;rw[hq]at this
    obtain⟨_,hv⟩:=this
    obtain⟨o1,o2,o3,o4,o5⟩:=ha.inv.ob id _ ho
    refine⟨g'.blk id,g'.cap id,g'.St,congrArg Ending.returned hv,hbel,ha.keep,hnew,ha.inv.st,o3,o4,o2,?_⟩
    rcases o5 with o5|⟨b,us,h1,h2,h3,h4,h5,h6⟩
    ·exact .inl o5
    ·refine .inr ⟨b,us,h1,?_,h2,h3,h4,h5,fun o hc=>by have:=(h6 o).1 hc;cases this.1⟩
     rcases ha.own id b h1 (qAO hid)with h7|h7
     ·exact h7
     ·exact h7.elim
  |_=>exact hq.elim
 ·refine⟨g,rfl,?_,hi,rfl,rfl,rfl,qAP _,fun _ _ _=>rfl,Keep.refl g.St w,fun _ _ h=>.inl h,fun i b hb hr=>?_,?_⟩
  ·simp[hlen];omega
  ·exfalso
   have h1:pre.length<=i:=hr
   have h2:=hi.dead i (by rw[hi.n];exact h1)
   rw[h2]at hb;cases hb
  ·refine zGI vs as 0 _ hrep fun j v hj=>?_
   have hjl:j<vs.length:=(qAA.1 hj).1
   simp only[qAY,qAL]
   rw[qAs (by simpa using hjl)]
   simp[hj]
section
variable {C:Ctx}{ops:Array Oper}{rest:List Oper}{K:Sl->List Ob->Prop}{σ:Sl}{η:List Ob}{d:Nat}{ty:TypeId}{pos:String}{after:Array Edge}{gd:Option (Nat×Bool)}
theorem zZF{f:FuncId}{args:List Operand}{ts:Array TypeId}{as:List SV}{pre:List Ob}{n e sz:Nat}{xs:List D}(ids:List Nat)(hb:zAL C.P f=true)(hc:zCO C.P f as pre n e sz xs)(ha:SArgs σ ids args as)(hp:Picks η ids pre)(hd:Nat.blt d C.N=true)
  (hn:ids.Nodup) (hlen:ids.length=pre.length) (hu:zG7 pre=true) (hbl:pre.all (Ob.below pre.length)=true) (hba:as.all (SV.bel pre.length)=true) (hro:Nat.ble C.ro η.length=true)
  (h:alex C false ops rest K ((d,.buf η.length n)::σ) (η++[.buf true e sz xs])) :
  zA2 C false ops ⟨some d,.call ⟨.value (.func f),args.toArray,ts⟩,ty,pos,after,gd⟩ rest K σ η:=by
 intro Q hQ a w ⟨g,hg⟩ K' hK'
 obtain⟨e1,e2⟩:=ha.rep hg
 unfold Oper.wp
 have hrun:(execOp a.eval ⟨some d,.call ⟨.value (.func f),args.toArray,ts⟩,ty,pos,after,gd⟩).run C.P w=.ok (.enter f (args.map a.eval).toArray) w:=by
  simp only[execOp,resolve,Act.eval,Deferred.ofValue,invoke,Sem.run_bind,Sem.run_pure,Result.andThen_ok,qBH,Array.empty_append,Array.append_empty]
  exact zFN hb
 rw[hrun,Oper.upon_enter]
 have hr:=RepSs.callee (g:=g) (w:=w) hlen (args.map a.eval) as e2 (by simp[e1]) hba
 refine(hc (zCF g ids) w _ (hg.inv.callee hn hlen hp hu hbl) hr).mono fun r w' ⟨ob,cap,St',he,hbel,hkeep,hnew,hlt,hcm,hxc,hfx,hob⟩=>?_
 subst he
 refine hK' _ _ (h Q hQ _ w' ?_)
 have hn:=hg.inv.n
 let g':Gh:={ St:=St',blk:=upd g.blk g.n ob,cap:=upd g.cap g.n cap,sz:=upd g.sz g.n sz,n:=g.n+1 }
 have hold:∀id,id<g.n->g'.blk id=g.blk id/\g'.cap id=g.cap id/\g'.sz id=g.sz id:=fun id hid=>by simp[g',upd,Nat.ne_of_lt hid]
 have hab:=hg.newOb (g':=g') (w':=w') (.buf true e sz xs) hbel.os hbel.tape hbel.output hbel.size hbel.block rfl hold (fun id hid=>by
   have hne:id≠g.n:=by omega
   simp only[g',upd,if_neg hne]
   exact hg.inv.dead id (by omega)) (fun b hb=>by
   have hb:ob=some b:=by simpa[g',upd]using hb
   rcases hob with⟨h1,_⟩|⟨b',us,h1,h2,h3,_⟩
   ·rw[h1]at hb;cases hb
   ·rw[h1]at hb;injection hb with hb;subst hb;exact⟨h2,(qAt.1 h3).1⟩) hkeep.sub hnew hlt (by rw[hn];exact qAO hro)
  ⟨by simp[g',upd],hfx,by simpa[g',upd]using hcm,by simpa[g',upd]using hxc,by
   rcases hob with⟨h1,h2⟩|⟨b',us,h1,h2,h3,h4,h5,h6,h7⟩
   ·exact .inl (by simp[g',upd,h1,h2])
   ·exact .inr ⟨b',us,by simp[g',upd,h1],h3,by simpa[g',upd]using h4,h5,h6,fun o=>⟨fun hc=>absurd hc (h7 o),fun hc=>by cases hc.1⟩⟩⟩
 refine⟨g',hab.put (d:=some d) hd ⟨?_,?_⟩⟩
 ·show η.length<g.n+1;omega
 ·show _=Value.slice ((upd g.blk g.n ob η.length).map _) _ (upd g.cap g.n cap η.length)
  rw[<-hn];simp[upd]
end
def zSw(P:Program)(t:TypeId): Option (Nat×Nat) :=
 match P.underlying t with
 |some (.array len e)=>(P.info? e).map fun i=>(len,i.size)
 |_=>none
theorem zMb{P:Program}{t len n:Nat}(h:zSw P t=some (len,n)): ∃e i,P.underlying t=some (.array len e)/\P.info? e=some i/\i.size=n:=by
 unfold zSw at h
 split at h
 ·rename_i l e hu
  cases hi:P.info? e with
  |none=>simp[hi]at h
  |some i=>simp[hi]at h;exact⟨e,i,by rw[hu,h.1],hi,h.2⟩
 ·cases h
section
variable {P:Program}{η:List Ob}{σ:Sl}{dst:Option Nat}{ty:TypeId}{pos:String}{after:Array Edge}{gd:Option (Nat×Bool)}{t:TypeId}{x y:Operand}
theorem zQL{id o len sz:Nat}{n:Int}{k:IntKind}(hx:oval σ x=.ptr id o)(hy:oval σ y=.d (.val (.int k n)))(hs:zSw P t=some (len,sz))(h:0<=n/\n<(len:Int)):
  Ylds P η σ ⟨dst,.indexAddr t x y,ty,pos,after,gd⟩ (.ptr id (o+n.toNat*sz)):=by
 obtain⟨e,i,hu,hinf,hsz⟩:=zMb hs
 refine Ylds.same fun g w a hi hr=>?_
 have hxr:=hr x (by simp[Op.operands])
 rw[hx]at hxr
 obtain⟨hid,b,hb,hv⟩:=hxr
 have hyr:=hr y (by simp[Op.operands])
 rw[hy]at hyr
 refine⟨.pointer (some ⟨b,o+n.toNat*sz,none⟩),?_,⟨hid,b,hb,rfl⟩⟩
 simp[execOp,hv,RepD.val_eq hyr,Instr.indexAt,asIntOf,Instr.sureAddr,run_underlying hu,h.1,h.2,sizeOf,typeInfo,hinf,hsz,Addr.add_lit]
def zUS(σ:Sl): List (Nat×Operand)->List (Nat×Value)->Prop
 |[],[]=>True
 |p::ps,q::qs=>(p.1=q.1/\oval σ p.2=.d (.val q.2))/\zUS σ ps qs
 |_,_=>False
theorem zIy: ∀{ps:List (Nat×Operand)} {qs:List (Nat×Value)},zUS σ ps qs->ps.length=qs.length/\∀(j:Nat) (p:Nat×Operand) (q:Nat×Value),ps[j]?=some p->qs[j]?=some q->p.1=q.1/\oval σ p.2=.d (.val q.2)
 |[],[],_=>⟨rfl,fun j p q hp=>by simp at hp⟩
 |p::ps,q::qs,h=>by
  obtain⟨h1,h2⟩:=zIy (ps:=ps) (qs:=qs) h.2
  refine⟨by simp[h1],fun j p' q' hp hq=>?_⟩
  cases j with
  |zero=>simp at hp hq;subst hp;subst hq;exact h.1
  |succ j=>exact h2 j p' q' (by simpa using hp) (by simpa using hq)
 |[],_::_,h=>h.elim
 |_::_,[],h=>h.elim
theorem zRo{ps:List (Nat×Operand)}{vs:List (Nat×Value)}{cells:List Value}(hp:zUS σ ps vs)(hb:P.built t vs=some cells.toArray)(h1:cells.all (·.oneCell')=true):
  Ylds P η σ ⟨dst,.build t ps.toArray,ty,pos,after,gd⟩ (.d (.agg (cells.map .val))) :=
 zbv (zIy hp).1 (zIy hp).2 hb h1
end
end Go.Sx
namespace Go.Sx
theorem Inv.noRow{g:Gh}{w:World}{η:List Ob}(hi:Inv g w η)(e sz:Nat):
  ∃g':Gh,Inv g' w (η++[.buf true e sz []])/\g'.St=g.St/\(∀id,id<g.n->g'.blk id=g.blk id/\g'.cap id=g.cap id/\g'.sz id=g.sz id)/\g'.n=g.n+1/\g'.blk g.n=none/\g'.cap g.n=0/\(∀j b,g'.blk j=some b->g.blk j=some b):=by
 have hn:=hi.n
 let g':Gh:={ g with blk:=upd g.blk g.n none,cap:=upd g.cap g.n 0,sz:=upd g.sz g.n sz,n:=g.n+1 }
 have hold:∀id,id<g.n->g'.blk id=g.blk id/\g'.cap id=g.cap id/\g'.sz id=g.sz id:=fun id hid=>by simp[g',upd,Nat.ne_of_lt hid]
 have hbl:∀j b,g'.blk j=some b->g.blk j=some b:=fun j b hb=>by
  by_cases h:j=g.n
  ·subst h;simp[g',upd]at hb
  ·simpa[g',upd,h]using hb
 have kp:Keep g.St w g'.St w:=⟨fun _ _ h=>h,fun _ _ _ _ h=>h,fun _ _=>rfl⟩
 refine⟨g',⟨by show g.n+1=_;rw[hn];simp,fun id b hb=>hi.lt id b (hbl id b hb),fun id hid=>?_,fun i j b h1 h2=>hi.inj i j b (hbl i b h1) (hbl j b h2),fun id o ho=>?_,hi.st,hi.gl⟩,rfl,hold,rfl,by simp[g',upd],by simp[g',upd],hbl⟩
 ·have h1:g.n+1<=id:=hid
  have hne:id≠g.n:=by omega
  simp only[g',upd,if_neg hne]
  exact hi.dead id (by omega)
 ·rw[List.getElem?_append]at ho
  split at ho
  ·rename_i hc
   exact(hi.ob id o ho).ext kp hold (by show g.n<=g.n+1;omega) (by omega) (fun b hb=>⟨rfl,fun o=>Iff.rfl⟩)
  ·rename_i hc
   have hid:id=g.n:=by
    have:=(qAA.1 ho).1
    simp at this;omega
   subst hid
   rw[show g.n-η.length=0 by omega]at ho
   simp at ho;subst ho
   exact⟨by simp[g',upd],by simp,by simp[g',upd],by simp,.inl ⟨by simp[g',upd],by simp[g',upd]⟩⟩
theorem RepSs.ext{g g':Gh}{w:World}(k:Keep g.St w g'.St w)(h:∀id,id<g.n->g'.blk id=g.blk id/\g'.cap id=g.cap id/\g'.sz id=g.sz id)(hn:g.n<=g'.n): ∀{vs:List Value} {ss:List SV},RepSs g w vs ss->RepSs g' w vs ss
 |[],[],_=>trivial
 |_::_,_::_,hr=>⟨hr.1.ext k h hn,RepSs.ext k h hn hr.2⟩
 |[],_::_,hr=>hr.elim
 |_::_,[],hr=>hr.elim
theorem RepSs.split{g:Gh}{w:World}{bs:List SV}: ∀{as:List SV} {vs:List Value},RepSs g w vs (as++bs)->∃us ws,vs=us++ws/\RepSs g w us as/\RepSs g w ws bs
 |[],vs,h=>⟨[],vs,rfl,trivial,h⟩
 |_::_,[],h=>h.elim
 |a::as,v::vs,h=>by
  obtain⟨us,ws,e,h1,h2⟩:=RepSs.split (as:=as) h.2
  exact⟨v::us,ws,by rw[e];rfl,⟨h.1,h1⟩,h2⟩
theorem RepSs.join{g:Gh}{w:World}{ws:List Value}{bs:List SV}(h2:RepSs g w ws bs): ∀{us:List Value} {as:List SV},RepSs g w us as->RepSs g w (us++ws) (as++bs)
 |[],[],_=>h2
 |_::_,_::_,h=>⟨h.1,RepSs.join h2 h.2⟩
 |[],_::_,h=>h.elim
 |_::_,[],h=>h.elim
theorem zLS{P:Program}{f:FuncId}{pre post:List Ob}{res:SV}{e sz k:Nat}(avs bvs:List SV)(hk:pre.length=k)(h:zAW P f (avs ++ .buf k 0::bvs) (pre++[.buf true e sz []]) res post): zAW P f (avs ++ .nil::bvs) pre res post:=by
 subst hk
 intro g w vs hi hr
 obtain⟨g',hi',hst,hold,hn,hb,hc,hbl⟩:=hi.noRow e sz
 have kp:Keep g.St w g'.St w:=⟨fun _ _ h=>by rw[hst];exact h,fun _ _ _ _ h=>h,fun _ _=>rfl⟩
 obtain⟨us,ws,rfl,h1,h2⟩:=hr.split
 cases ws with
 |nil=>exact h2.elim
 |cons v ws =>
  obtain⟨h2,h3⟩:=h2
  have hv:v=.slice none 0 0:=h2
  have ext:=fun {vs:List Value} {ss:List SV} (r:RepSs g w vs ss)=>r.ext kp hold (by omega:g.n<=g'.n)
  have hr':RepSs g' w (us++v::ws) (avs ++ .buf pre.length 0::bvs):=(show RepSs g' w (v::ws) (.buf pre.length 0::bvs)from⟨⟨by rw[hn,hi.n];omega,by rw[hv,<-hi.n,hb,hc];rfl⟩,ext h3⟩).join (ext h1)
  refine(h g' w _ hi' hr').mono fun r w' ⟨v',g'',e1,e2,e3,F⟩=>⟨v',g'',e1,e2,e3,⟨F.os,F.tape,F.output,F.size,fun k hk hno=>F.heap k hk fun j hj=>hno j (hbl j k hj),hst▸F.keep,fun b o ho=>?_,fun j b hj=>?_,fun j o hj ho=>?_⟩⟩
  ·rcases F.new b o ho with h|h|⟨j,h⟩
   ·exact .inl (hst▸h)
   ·exact .inr (.inl h)
   ·exact .inr (.inr ⟨j,hbl j b h⟩)
  ·rcases F.own j b hj with h|⟨i,h⟩
   ·exact .inl h
   ·exact .inr ⟨i,hbl i b h⟩
  ·have hlt:j<pre.length:=(qAA.1 hj).1
   rw[F.box j o (by rw[qAI hlt];exact hj) ho]
   exact(hold j (by rw[hi.n];exact hlt)).1
theorem zCb{C:Ctx}{σ:Sl}{η:List Ob}{Q:Exit->Sl->List Ob->Prop}{c:Code}(id j:Nat){k:Option Nat}{et:Option TypeId}{cs:List SV}{s:SV}{d:D}(ho:η[id]?=some (.bx k et cs))(hj:cs[j]?=some s)(hc:Co η s d)
  (h:awp C c Q σ (η.set id (.bx k et (cs.set j (.d d))))):awp C c Q σ η:=by
 intro R hR a w ⟨g,ha⟩
 refine h R hR a w ⟨g,{ ha with inv:={ ha.inv with n:=by simpa using ha.inv.n,ob:=fun i o hi=>?_ } }⟩
 have hidl:id<η.length:=(qAA.1 ho).1
 rw[qAX]at hi
 split at hi
 ·rename_i e;subst e
  try rw[if_pos hidl]at hi
  injection hi with hi;subst hi
  obtain⟨b,e',us,h1,h2,h3,h4,h5,h6,h7⟩:=ha.inv.ob id _ ho
  refine⟨b,e',us,h1,h2,by simpa using h3,h4,fun m u s' hu hs=>?_,h6,h7⟩
  rw[qAX]at hs
  split at hs
  ·rename_i hm;subst hm
   have hjl:=(qAA.1 hj).1
   try rw[if_pos hjl]at hs
   injection hs with hs;subst hs
   exact Co.rep ha.inv (h5 j u _ hu hj) hc
  ·exact h5 m u s' hu hs
 ·exact ha.inv.ob i o hi
open Go.RowKit
theorem zMX{sz:Nat}{d':D}: ∀{xs:List D} {i:Nat},(∀x∈xs,x.flat.length=sz)->i<xs.length->zCM (xs.set i d')=(zCM xs).take (i*sz)++d'.flat++(zCM xs).drop (i*sz+sz)
 |x::r,0,hf,_=>by
  have h1:=hf x (by simp)
  simp only[zCM,qBo,qAf,Nat.zero_mul,qAY,List.take_zero,qBj]
  rw[<-h1,List.drop_left]
 |x::r,i+1,hf,hi=>by
  have h1:=hf x (by simp)
  have ih:=zMX (sz:=sz) (d':=d') (xs:=r) (i:=i) (fun y hy=>hf y (by simp[hy])) (by simpa using hi)
  simp only[zCM,List.set_cons_succ,qAf]at ih ⊢
  rw[ih,show (i+1)*sz=x.flat.length+i*sz by rw[qAx,h1];omega,List.take_length_add_append,show x.flat.length+i*sz+sz=x.flat.length+(i*sz+sz) by omega,List.drop_length_add_append]
  simp only[qAg]
 |[],_,_,hi=>by simp at hi
section
variable {C:Ctx}{ops:Array Oper}{rest:List Oper}{K:Sl->List Ob->Prop}{σ:Sl}{η:List Ob}{d:Nat}{ty:TypeId}{pos:String}{after:Array Edge}{gd:Option (Nat×Bool)}{t:TypeId}{x y:Operand}
theorem zIY{id i n e:Nat}{b0:Bool}{xs ds:List D}(hx:oval σ x=.bptr id i 0)(hy:oval σ y=.d (.agg ds))(ht:zBD C.P t=some (b0,n))(hn:Nat.beq ds.length n=true)(ho:η[id]?=some (.buf true e n xs))(hi:i<xs.length)(hro:Nat.ble C.ro id=true)
  (h:alex C false ops rest K σ (η.set id (.buf true e n (xs.set i (.agg ds))))):zA2 C false ops ⟨none,.store t x y,ty,pos,after,gd⟩ rest K σ η:=by
 have hn:=qAk hn
 refine zOx (fun g a w ha=>?_) h
 have hp:=ha.eval x;rw[hx]at hp
 have hr:=ha.eval y;rw[hy]at hr
 obtain⟨hid,b,hb,hpv⟩:=hp
 obtain⟨o1,o2,o3,o4,o5⟩:=ha.inv.ob id _ ho
 rcases o5 with⟨h1,_⟩|⟨b',us,h1,h2,h3,h4,h5,h6⟩
 ·rw[h1]at hb;cases hb
 ·rw[hb]at h1;injection h1 with h1;subst h1
  obtain⟨c1,c2,c3⟩:=hr.cells (cs:=ds.map .d) rfl
  rw[qAC]at c1
  have hpos:i*n+n<=xs.length*n:=by
   have:=qAh n (show i+1<=xs.length by omega)
   rw[qAx]at this;omega
  have hcap:xs.length*n<=us.size:=by rw[h3];exact qAh _ o4
  have hst:=run_storeCells_at C.P b (i*n) e (a.eval y).cells.toList 0 us w h2 (by rw[qAT];omega) (fun v hm=>c2 v (by simpa using hm))
  simp only[qA6]at hst
  have hcl:(a.eval y).cells.toList.length=n:=by rw[qAT];omega
  have hfl:=zMX (sz:=n) (d':=.agg ds) o2 hi
  have hset:∀x∈xs.set i (.agg ds),x.flat.length=n:=fun x hx=>by
   rcases qBZ hx with h|h
   ·exact o2 x h
   ·rw[h];exact hn
  have e1:(us.toList.take (i*n)).length=i*n:=by rw[qAG,qAT];omega
  have e2:((zCM xs).take (i*n)).length=i*n:=by rw[qAG,zB9 o2];omega
  have hget:∀j u,(us.toList.take (i*n)++(a.eval y).cells.toList++us.toList.drop (i*n+(a.eval y).cells.toList.length))[j]?=some u->
    ((j<i*n\/i*n+n<=j)/\us[j]?=some u)\/(i*n<=j/\j<i*n+n/\(a.eval y).cells[j-i*n]?=some u):=by
   intro j u hu
   rw[hcl,qAg]at hu
   rcases qAR j (i*n)with hj|hj
   ·rw[qAI (by omega),qAS,if_pos hj]at hu
    exact .inl ⟨.inl hj,by simpa using hu⟩
   ·rw[qAJ (by omega),e1]at hu
    rcases qAR (j-i*n) n with hj2|hj2
    ·rw[qAI (by omega)]at hu
     exact .inr ⟨hj,by omega,by simpa using hu⟩
    ·rw[qAJ (by omega),hcl,qAl]at hu
     refine .inl ⟨.inr (by omega),?_⟩
     rw[show i*n+n+(j-i*n-n)=j by omega]at hu
     simpa using hu
  refine⟨_,?_,g,ha.writeBuf (us':=(us.toList.take (i*n)++(a.eval y).cells.toList++us.toList.drop (i*n+(a.eval y).cells.toList.length)).toArray) ho (qAO hro) hb h2 (fun o hc=>by have:=(h6 o).1 hc;cases this.1) hset (by rw[qAZ];exact o4) (by simp;omega) h3 (fun j u hj hu=>?_) (fun j u d' hu hd'=>?_)⟩
  ·rw[o1]at hpv
   simp only[execOp,hpv,Instr.storeAt,Instr.sureAddr,storeVar,Sem.run_bind,Sem.run_pure,Result.andThen_ok,(zB8 ht w).2,c1,hn,ne_eq,not_true,if_false,qA6,hst]
  ·rw[qAZ]at hj
   rw[qBW]at hu
   rcases hget j u hu with⟨_,h⟩|⟨_,_,h⟩
   ·exact h4 j u hj h
   ·exact c2 u (qBE h)
  ·rw[qBW]at hu
   rw[hfl,qAg]at hd'
   have e3:(D.agg ds).flat.length=n:=hn
   rcases hget j u hu with⟨hj,h⟩|⟨hj1,hj2,h⟩
   ·refine h5 j u d' h ?_
    rcases hj with hj|hj
    ·rw[qAI (by omega),qAS,if_pos hj]at hd';exact hd'
    ·rw[qAJ (by omega),e2,qAJ (by omega),e3,qAl]at hd'
     rw[show i*n+n+(j-i*n-n)=j by omega]at hd'
     exact hd'
   ·rw[qAJ (by omega),e2,qAI (by omega)]at hd'
    exact c3 (j-i*n) u (.d d') h (by rw[qAH];rw[show (D.agg ds).flat=ds from rfl]at hd';rw[hd'];rfl)
end
def FF(G:Nat->SV->SV): Nat->SV->SV
 |0,s=>s
 |i+1,s=>G i (FF G i s)
def TT(Tn:Nat->Sl->Sl): Nat->Sl->Sl
 |0,σ=>σ
 |i+1,σ=>Tn i (TT Tn i σ)
theorem zHJ{G:Nat->SV->SV}{Tn:Nat->Sl->Sl}(hG:∀i τ t,get (Tn i τ) t=G i (get τ t)): ∀(i:Nat) (τ:Sl) (t:Nat),get (TT Tn i τ) t=FF G i (get τ t)
 |0,_,_=>rfl
 |i+1,τ,t=>by rw[TT,FF,hG,zHJ hG i τ t]
def zQi(C:Ctx)(l:List Oper)(es:List Nat)(ηs:List (List Ob))(G:Nat->SV->SV)(Tn:Nat->Sl->Sl)(j:Nat)(o:Oper)(s:SV)(σ:Sl): Prop:=match idxC es j with
 |some i=>∃d,o.dst=some d/\∀τ,(∀t,t∈o.looksAt l.toArray->get τ t=get (TT Tn i σ) t)->EStep C o (fun σ' η'=>(∀t,get σ' t=get ((d,FF G (i+1) s)::Tn i τ) t)/\η'=ηs.getD (i+1) []) τ (ηs.getD i [])
 |none=>∀(q:Nat) (η:List Ob),lowC l es j<=q->ηs[q]?=some η->Ylds C.P η (TT Tn q σ) o (FF G q s)
def segT(C:Ctx)(l:List Oper)(es:List Nat)(ηs:List (List Ob))(G:Nat->SV->SV)(Tn:Nat->Sl->Sl): Nat->List Oper->List SV->Sl->Prop
 |j,o::r,s::ss,σ=>(o.guard=none/\zEg C.N o.dst/\zQi C l es ηs G Tn j o s σ)/\segT C l es ηs G Tn (j+1) r ss (put σ o.dst s)
 |_,_,_,_=>True
theorem zTp{C:Ctx}{l:List Oper}{es:List Nat}{ηs:List (List Ob)}{G:Nat->SV->SV}{Tn:Nat->Sl->Sl}(hG:∀i τ t,get (Tn i τ) t=G i (get τ t)): ∀(r:List Oper) (ss:List SV) (j:Nat) (σ:Sl),segT C l es ηs G Tn j r ss σ->∀(i:Nat) o s,r[i]?=some o->ss[i]?=some s->
  o.guard=none/\zEg C.N o.dst/\match idxC es (j+i)with
   |some k=>∃d,o.dst=some d/\∀τ,(∀t,t∈o.looksAt l.toArray->get τ t=FF G k (get (pst σ j r ss (fun m=>decide (m<j+i))) t))->EStep C o (fun σ' η'=>(∀t,get σ' t=get ((d,FF G (k+1) s)::Tn k τ) t)/\η'=ηs.getD (k+1) []) τ (ηs.getD k [])
   |none=>∀(q:Nat) (η:List Ob),lowC l es (j+i)<=q->ηs[q]?=some η->∀τ,(∀x∈o.op.operands,oval τ x=oval (TT Tn q (pst σ j r ss (fun m=>decide (m<j+i)))) x)->Ylds C.P η τ o (FF G q s)
 |_,[],_,_,_,i,o,s,_,hs=>by simp at hs
 |[],_::_,_,_,_,i,o,s,ho,_=>by simp at ho
 |o::r,s::ss,j,σ,h,0,o',s',ho,hs=>by
  simp at ho hs;subst ho;subst hs
  have e0:∀t,get (pst σ j (o::r) (s::ss) (fun m=>decide (m<j+0))) t=get σ t:=by
   intro t
   have:=zCW t (o::r) (s::ss) σ σ j (fun m=>decide (m<j+0)) (fun _=>false) rfl (fun i o' hi hne=>by simp at hne)
   rw[this,zD4]
  obtain⟨⟨h1,h2,h4⟩,_⟩:=h
  refine⟨h1,h2,?_⟩
  unfold zQi at h4
  rw[qA6]at *
  split
  ·rename_i k hk
   rw[hk]at h4
   obtain⟨d,h5,h6⟩:=h4
   exact⟨d,h5,fun τ hτ=>h6 τ fun t ht=>by rw[hτ t ht,e0,zHJ hG]⟩
  ·rename_i hk
   rw[hk]at h4
   intro q η hq hη τ hτ
   exact(h4 q η hq hη).congr fun x hx=>(hτ x hx).trans (zDP (fun t=>by rw[zHJ hG,zHJ hG,e0]) x)
 |o::r,s::ss,j,σ,h,i+1,o',s',ho,hs=>by
  have:=zTp hG r ss (j+1) _ h.2 i o' s' (by simpa using ho) (by simpa using hs)
  have hj:j+(i+1)=j+1+i:=by omega
  have hd:decide (j<j+1+i)=true:=by simp;omega
  simp only[pst,hj,hd]
  exact this
theorem zVf{C:Ctx}{Q:Exit->Sl->List Ob->Prop}{σ:Sl}{η:List Ob}{id:Nat}{l:List Oper}(ss:List SV)(es:List Nat)(ηs:List (List Ob))(G:Nat->SV->SV)(Tn:Nat->Sl->Sl)
  (hm:C.P.follows .mixedOrders=true) (hB:zGQ l=true) (hsl:Nat.ble ss.length l.length=true) (hbar:ss.length=l.length\/zIc l.toArray (l.length-ss.length-1)=true) (hes:(es.all fun e=>Nat.blt e ss.length)=true) (hch:zMZ l es=true)
  (hη:Nat.beq ηs.length (es.length+1)=true) (h0:ηs.getD 0 []=η) (hG:∀i τ t,get (Tn i τ) t=G i (get τ t))
  (hs:segT C l es ηs G Tn 0 l ss σ) (h:alex C true l.toArray (l.drop ss.length) (Q .normal) (TT Tn es.length (segσ l (ss.map .y) σ)) (ηs.getD es.length [])):awp C (.region id l.toArray true) Q σ η:=by
 intro R hR a w ⟨g,hg⟩
 have hsl:=qAO hsl
 have hη:=qAk hη
 have hd0:Abs C σ η a { w with drawn:=w.drawn+1 }:=⟨g,hg.grow ⟨rfl,rfl,rfl,rfl,rfl,rfl,rfl,qAP _,fun _ _=>rfl,fun _ _ h=>h,fun _ _ h=>.inl h,hg.inv.st⟩⟩
 have hsv:(ss.map SegK.y).map SegK.sv=ss:=by rw[qBt];exact List.map_id ss
 have hat:=zTp hG l ss 0 σ hs
 have hnd:es.Nodup:=by
  rw[List.nodup_iff_pairwise_ne,List.pairwise_iff_getElem]
  intro i j hi hj hij
  have:=(zGT hch i j _ _ hij (qAB hi) (qAB hj)).1
  omega
 let I:(Nat->Bool)->Act->World->Prop:=fun f a w=>Abs C (TT Tn (cntC es f) (pst σ 0 l ss f)) (ηs.getD (cntC es f) []) a w
 refine wp_region_any hm (zMF (C:=C) (K:=Q .normal) (fun σ' η' a w hk hab=>hR _ _ _ _ _ hk hab) hB ss.length hsl hbar I ?_ ?_ _ _ a _ (by simp) ?_ ?_ (fun i _ hi=>?_) ?_)
 ·intro f a w hf hI
  refine⟨_,_,h,?_⟩
  have hc:cntC es f=es.length:=by
   unfold cntC
   rw[List.filter_eq_self.2 fun e he=>hf e (by have:=qAb.1 hes e he;simpa using this)]
  simp only[I,hc]at hI
  have:=zJH l (ss.map .y) 0 σ f (fun i hi=>by rw[qAY];exact hf i (by simpa using hi))
  rw[hsv]at this
  rw[this]at hI;exact hI
 ·intro f j o a w hjm hlj hun hcl hdep hI
  obtain⟨s,hsj⟩:∃s,ss[j]?=some s:=⟨_,qAB hjm⟩
  have same:=zIN (σ:=σ) (ss:=ss) hB hlj hun hcl hdep
  have next:=zIO (σ:=σ) hB hlj hsj hun hcl
  obtain⟨hgd,hdst,hop⟩:=hat j o s hlj hsj
  rw[qAY]at hop
  have hcl':∀j o,l.toArray[j]?=some o->f j=true->∀e∈o.after,Region.binds .any e=true->f e.on=true:=fun j o ho=>hcl j o (by simpa using ho)
  have hreach:∀e,zGX l.toArray l.length j e=true->f e=true:=fun e hr=>zCv hcl' l.length j o (by simpa using hlj) hdep hr
  simp only[I]at hI
  split at hop
  ·
   rename_i i hi
   have hei:=zLV es j _ hi
   obtain⟨d,hd,hE⟩:=hop
   have hcnt:cntC es f=i:=zQA (fun b x hb=>by
    rcases qBS b i with hlt|heq|hgt
    ·rw[hreach x (zGT hch b i x j hlt hb hei).2];exact(decide_eq_true hlt).symm
    ·subst heq;rw[hb]at hei;injection hei with hei;subst hei;rw[hun];simp
    ·have hr:=(zGT hch i b j x hgt hei hb).2
     cases hfx:f x with
     |false=>exact(decide_eq_false (by omega)).symm
     |true =>
      exfalso
      have hxl:∃ox,l[x]?=some ox:=by
       have hxs:x<ss.length:=by have:=qAb.1 hes x (qAF hb);simpa using this
       exact⟨_,qAB (by omega)⟩
      obtain⟨ox,hox⟩:=hxl
      have:=zCv hcl' l.length x ox (by simpa using hox) (fun e he hbn=>hcl x ox hox hfx e he hbn) hr
      rw[hun]at this;cases this) (by have:=(qAA.1 hei).1;omega)
   rw[hcnt]at hI
   refine .inl ⟨by unfold Region.wanted;rw[hgd],?_⟩
   refine Oper.wp_mono ?_ (hE _ (fun t ht=>by rw[zHJ hG,same t ht]) _ a w hI)
   rintro a' w' ⟨σ',η'',⟨hσ',rfl⟩,hab⟩
   simp only[I,zRX hnd hei hun,hcnt]
   refine hab.le fun t=>.inl ?_
   have hn2:=next t
   rw[hd]at hn2
   rw[hσ' t]
   simp only[put,zBx]at hn2 ⊢
   rw[zHJ hG,<-hn2]
   by_cases h5:d=t
   ·rw[if_pos h5,if_pos h5]
   ·rw[if_neg h5,if_neg h5,hG,zHJ hG];rfl
  ·
   rename_i hi
   have hnm:=zLW hi
   have hlow:lowC l es j<=cntC es f:=by unfold lowC;exact zP9 (f:=fun e=>zGX l.toArray l.length j e) fun k _ hk=>hreach k hk
   have hlen:cntC es f<ηs.length:=by
    have:cntC es f<=es.length:=qBD _ _
    omega
   have hη2:ηs[cntC es f]?=some (ηs.getD (cntC es f) []):=by
    rw[qAD,qAB hlen];rfl
   have hy:Ylds C.P (ηs.getD (cntC es f) []) (TT Tn (cntC es f) (pst σ 0 l ss f)) o (FF G (cntC es f) s):=hop _ _ hlow hη2 _ fun x hx=>by
    cases x with
    |tmp t=>show get _ t=get _ t;rw[zHJ hG,zHJ hG,same t (zBv hx)]
    |_=>rfl
   obtain⟨g,h1⟩:=hI
   refine .inl ⟨by unfold Region.wanted;rw[hgd],?_⟩
   refine hy.wp hdst (fun a' w' hab=>?_) h1
   simp only[I,zRY hnm]
   refine hab.le fun t=>.inl ?_
   have hn2:=next t
   cases hdd:o.dst with
   |none =>
    rw[hdd]at hn2
    simp only[put]at hn2 ⊢
    rw[zHJ hG,zHJ hG,hn2]
   |some d =>
    rw[hdd]at hn2
    simp only[put,zBx]at hn2 ⊢
    rw[zHJ hG,<-hn2]
    by_cases h5:d=t
    ·rw[if_pos h5,if_pos h5]
    ·rw[if_neg h5,if_neg h5,zHJ hG]
 ·refine qAu (qBD _ _) (by simp)
 ·intro j o hj hl
  have hjl:j<l.length:=(qAA.1 hj).1
  rw[qAL,qAK (by simpa using hjl)]at hl
  simp at hl
 ·rw[qAL,qAK (by simpa using hi)]
  simp
 ·have hf0:∀i,i<l.length->(Array.replicate l.toArray.size false).getD i true=false:=fun i hi=>by
   rw[qAL,qAK (by simpa using hi)];simp
  have hc0:cntC es (fun i=>(Array.replicate l.toArray.size false).getD i true)=0:=by
   unfold cntC
   rw[List.filter_eq_nil_iff.2 fun e he=>by rw[hf0 e (by have:=qAb.1 hes e he;simp at this;omega)];simp];rfl
  simp only[I,hc0]
  obtain⟨g,hd0⟩:=hd0
  rw[h0]
  refine⟨g,{ hd0 with rep:=fun t=>?_ }⟩
  show RepS _ _ _ (get (pst σ 0 l ss _) t)
  rw[zCW t l ss σ σ 0 _ (fun _=>false) rfl (fun i o hi hne=>?_),zD4]
  ·exact hd0.rep t
  ·rw[qAY,hf0 i (qAA.1 hi).1]at hne
   exact absurd rfl hne
end Go.Sx
namespace Go.Sx
def JFit(s:Sl)(h:List Ob): Exit->Sl->List Ob->Prop
 | .normal,σ,η=>Fits s h σ η
 |_,_,_=>False
theorem zRd{C:Ctx}{Q:Exit->Sl->List Ob->Prop}{σ:Sl}{η:List Ob}{x:Operand}{c d rest:Code}{p:Prop}{ip:Decidable p}(hx:oval σ x=.d (.val (.bool (decide p))))(s:Sl)(h:List Ob)
  (h1:p->awp C c (JFit s h) σ η) (h2:¬p->awp C d (JFit s h) σ η) (h3:awp C rest Q s h):awp C (.cond x c d) (zBR (awp C rest Q) Q) σ η:=by
 have key:∀{c:Code},awp C c (JFit s h) σ η->awp C c (zBR (awp C rest Q) Q) σ η:=fun hc R hR a w hab=>hc R (fun e σ' η' a' w' hj hab'=>by
  cases e with
  |normal=>exact hR .normal σ' η' a' w' (zBW hj h3) hab'
  |_=>exact hj.elim) a w hab
 exact(zBO hx (fun hp=>key (h1 hp)) (fun hp=>key (h2 hp)))
theorem jfit{s σ:Sl}{h η:List Ob}(f:Fits s h σ η): JFit s h .normal σ η:=f
open Go.RowKit
def za4(id:Nat): Nat->SV->SV
 |1,s=>s.kill id
 |_,s=>s
def za3(id:Nat): Nat->Sl->Sl
 |1,σ=>zGY id σ
 |_,σ=>σ
theorem zdM(id:Nat): ∀(i:Nat) (τ:Sl) (t:Nat),get (za3 id i τ) t=za4 id i (get τ t)
 |0,_,_=>rfl
 |1,τ,t=>zGi id τ t
 |_+2,_,_=>rfl
section
variable {C:Ctx}{l:List Oper}{es:List Nat}{G:Nat->SV->SV}{Tn:Nat->Sl->Sl}{j:Nat}{o:Oper}{r:List Oper}{s:SV}{ss:List SV}{σ:Sl}{η0 η1 η2:List Ob}
theorem zWz{ηs:List (List Ob)}: segT C l es ηs G Tn j r [] σ:=by cases r <;> trivial
theorem zFF(L:Nat)(hi:idxC es j=none)(hg:o.guard=none)(hd:zEg C.N o.dst)(hF1:FF G 1 s=s)(hF2:FF G 2 s=s)(hlow:lowC l es j=L)(y0:L<=0->Ylds C.P η0 σ o s)(y1:L<=1->Ylds C.P η1 (TT Tn 1 σ) o s)(y2:Ylds C.P η2 (TT Tn 2 σ) o s)
  (hr:segT C l es [η0,η1,η2] G Tn (j+1) r ss (put σ o.dst s)):segT C l es [η0,η1,η2] G Tn j (o::r) (s::ss) σ:=by
 refine⟨⟨hg,hd,?_⟩,hr⟩
 unfold zQi
 rw[hi]
 intro q η hq hη
 rw[hlow]at hq
 match q,hη with
 |0,hη=>injection hη with hη;subst hη;exact y0 hq
 |1,hη=>injection hη with hη;subst hη;rw[hF1];exact y1 hq
 |2,hη=>injection hη with hη;subst hη;rw[hF2];exact y2
 |q+3,hη=>simp at hη
theorem zYr{ηs:List (List Ob)}(i d:Nat)(hi:idxC es j=some i)(hg:o.guard=none)(hdst:o.dst=some d)(hd:Nat.blt d C.N=true)
  (hE:∀τ,(∀t,t∈o.looksAt l.toArray->get τ t=get (TT Tn i σ) t)->EStep C o (fun σ' η'=>(∀t,get σ' t=get ((d,FF G (i+1) s)::Tn i τ) t)/\η'=ηs.getD (i+1) []) τ (ηs.getD i []))
  (hr:segT C l es ηs G Tn (j+1) r ss (put σ o.dst s)):segT C l es ηs G Tn j (o::r) (s::ss) σ:=by
 refine⟨⟨hg,by rw[hdst];exact hd,?_⟩,hr⟩
 unfold zQi
 rw[hi]
 exact⟨d,hdst,hE⟩
end
section
variable {C:Ctx}{ops:Array Oper}{l:List Oper}{K:Sl->List Ob->Prop}{σ:Sl}{η:List Ob}
theorem zS0(t:Nat){s:SV}{d:D}(hs:get σ t=s)(hc:Co η s d)(h:alex C false ops l K ((t,.d d)::σ) η): alex C false ops l K σ η:=by
 intro Q hQ a w ⟨g,ha⟩
 refine h Q hQ a w ⟨g,{ ha with rep:=fun u=>?_ }⟩
 rw[zBx]
 split
 ·rename_i e;subst e
  have:=ha.rep t;rw[hs]at this
  exact Co.rep ha.inv this hc
 ·exact ha.rep u
end
structure Fn where
 d:Nat
 v:Nat->Value
 ob:Obj
 o:Nat->Ob
structure FnOk(p:Fn): Prop where
 inj:∀{b c:Nat},p.v b=p.v c->b=c
 ok:∀(g:Gh) (w:World) (id b:Nat),g.blk id=some b->w.heap[b]?=some p.ob->(∀o,¬g.St b o)->ObOk g w id (p.o b)
inductive SegF where
 |y (s:SV)
 |mk (p:Fn)
def SegF.sv: SegF->SV
 | .y s=>s
 | .mk _=>.top
def MkF(P:Program)(o:Oper)(σ:Sl)(p:Fn): Prop :=
 FnOk p/\∀(ev:Operand->Value) (g:Gh) (w:World),(∀x∈o.op.operands,RepS g w (ev x) (oval σ x))->(execOp ev o).run P w=.ok (.value (p.v w.heap.size)) (w.alloc p.ob)
def zSB(C:Ctx)(l:List Oper)(η:List Ob): Nat->List Oper->List SegF->Sl->Prop
 |j,o::r,.y s::ks,σ=>((Wants l.toArray σ o.guard true/\Ylds C.P η σ o s)/\zEg C.N o.dst)/\zSB C l η (j+1) r ks (put σ o.dst s)
 |j,o::r,.mk p::ks,σ=>((MkF C.P o σ p/\o.guard=none/\o.dst=some p.d/\once l j p.d=true)/\zEg C.N o.dst)/\zSB C l η (j+1) r ks (put σ o.dst .top)
 |_,_,[],_=>True
 |_,[],_::_,_=>False
def pnF: List SegF->List Fn
 |[]=>[]
 | .mk p::r=>p::pnF r
 |_::r=>pnF r
def zR9: List Oper->List SegF->Sl->Sl
 |o::r,k::ks,σ=>zR9 r ks (put σ o.dst k.sv)
 |_,_,σ=>σ
def adσF: List Fn->List Nat->Sl->Sl
 |p::r,b::bs,σ=>adσF r bs ((p.d,.d (.val (p.v b)))::σ)
 |_,_,σ=>σ
def adηF: List Fn->List Nat->List Ob
 |p::r,b::bs=>p.o b::adηF r bs
 |_,_=>[]
def FreshF(C:Ctx)(g:Gh)(w:World)(v:Value)(p:Fn): Prop:=∃b,v=p.v b/\w.heap[b]?=some p.ob/\(∀o,¬g.St b o)/\(∀id,g.blk id≠some b)/\C.w0.heap.size<=b/\b<w.heap.size
theorem FreshF.grow{C:Ctx}{g g':Gh}{w w':World}{v:Value}{p:Fn}(h:FreshF C g w v p)(k:Grow g w g' w'): FreshF C g' w' v p:=by
 obtain⟨b,h1,h2,h3,h4,h5,h6⟩:=h
 refine⟨b,h1,(k.heap b h6).trans h2,fun o ho=>?_,fun id=>by rw[k.blk];exact h4 id,h5,qAa h6 k.size⟩
 rcases k.new b o ho with h7|h7
 ·exact h3 o h7
 ·omega
theorem zLA{C:Ctx}{l:List Oper}{η:List Ob}: ∀(r:List Oper) (ks:List SegF) (j:Nat) (σ:Sl),zSB C l η j r ks σ->ks.length<=r.length
 |_,[],_,_,_=>qAQ _
 |[],.y _::_,_,_,h=>h.elim
 |[],.mk _::_,_,_,h=>h.elim
 |_::r,.y _::ks,_,_,h=>Nat.succ_le_succ (zLA r ks _ _ h.2)
 |_::r,.mk _::ks,_,_,h=>Nat.succ_le_succ (zLA r ks _ _ h.2)
theorem MkF.congr{P:Program}{o:Oper}{σ σ':Sl}{p:Fn}(e:∀x∈o.op.operands,oval σ' x=oval σ x)(h:MkF P o σ p): MkF P o σ' p :=
 ⟨h.1,fun ev g w hx=>h.2 ev g w fun x hm=>by rw[<-e x hm];exact hx x hm⟩
theorem zQk{C:Ctx}{l:List Oper}{η:List Ob}: ∀(r:List Oper) (ks:List SegF) (j:Nat) (σ:Sl),zSB C l η j r ks σ->∀(i:Nat) o k,r[i]?=some o->ks[i]?=some k->zEg C.N o.dst/\
  (match k with
  | .y s=>Wants l.toArray (pst σ j r (ks.map SegF.sv) (fun m=>decide (m<j+i))) o.guard true/\Ylds C.P η (pst σ j r (ks.map SegF.sv) (fun m=>decide (m<j+i))) o s
  | .mk p=>MkF C.P o (pst σ j r (ks.map SegF.sv) (fun m=>decide (m<j+i))) p/\o.guard=none/\o.dst=some p.d/\once l (j+i) p.d=true)
 |_,[],_,_,_,i,o,k,_,hk=>by simp at hk
 |[],_::_,_,_,_,i,o,k,ho,_=>by simp at ho
 |o::r,k::ks,j,σ,h,0,o',k',ho,hk=>by
  simp at ho hk;subst ho;subst hk
  have e0:∀t,get (pst σ j (o::r) ((k::ks).map SegF.sv) (fun m=>decide (m<j+0))) t=get σ t:=by
   intro t
   have:=zCW t (o::r) ((k::ks).map SegF.sv) σ σ j (fun m=>decide (m<j+0)) (fun _=>false) rfl (fun i o' hi hne=>by simp at hne)
   rw[this,zD4]
  cases k with
  |y s =>
   obtain⟨⟨⟨h1,h2⟩,h3⟩,_⟩:=h
   exact⟨h3,h1.congr e0,h2.congr fun x _=>zDP e0 x⟩
  |mk p =>
   obtain⟨⟨⟨h1,h2,h3,h4⟩,h5⟩,_⟩:=h
   exact⟨h5,h1.congr fun x _=>zDP e0 x,h2,h3,h4⟩
 |o::r,k::ks,j,σ,h,i+1,o',k',ho,hk=>by
  have hr:zSB C l η (j+1) r ks (put σ o.dst k.sv):=by cases k <;> exact h.2
  have:=zQk r ks (j+1) _ hr i o' k' (by simpa using ho) (by simpa using hk)
  have hj:j+(i+1)=j+1+i:=by omega
  have hd:decide (j<j+1+i)=true:=by simp;omega
  simp only[qAr,pst,hj,hd]
  exact this
theorem zN8: ∀(r:List Oper) (ks:List SegF) (j:Nat) (σ:Sl) (f:Nat->Bool),(∀i,i<ks.length->f (j+i)=true)->pst σ j r (ks.map SegF.sv) f=zR9 r ks σ
 |_,[],_,_,_,_=>by simp[pst,zR9]
 |[],_::_,_,_,_,_=>by simp[pst,zR9]
 |o::r,k::ks,j,σ,f,h=>by
  have h0:=h 0 (by simp)
  rw[qA6]at h0
  simp only[qAr,pst,h0,zR9]
  exact zN8 r ks (j+1) _ f fun i hi=>by have:=h (i+1) (by simpa using hi);rw[show j+1+i=j+(i+1) by omega];exact this
theorem zLK: ∀{ks:List SegF} {p:Fn},p∈pnF ks->∃j:Nat,ks[j]?=some (.mk p)
 |[],_,h=>by simp[pnF]at h
 | .y _::ks,p,h=>by obtain⟨j,hj⟩:=zLK (ks:=ks) h;exact⟨j+1,by simpa using hj⟩
 | .mk q::ks,p,h=>by
  rcases qBL.1 h with h|h
  ·exact⟨0,by rw[h];rfl⟩
  ·obtain⟨j,hj⟩:=zLK (ks:=ks) h;exact⟨j+1,by simpa using hj⟩
theorem zM8{R:Fn->Fn->Prop}: ∀(ks:List SegF),(∀(i j:Nat) p q,ks[i]?=some (.mk p)->ks[j]?=some (.mk q)->i≠j->R p q)->(pnF ks).Pairwise R
 |[],_=>List.Pairwise.nil
 | .y _::ks,h=>zM8 ks fun i j p q hi hj hne=>h (i+1) (j+1) p q (by simpa using hi) (by simpa using hj) (by omega)
 | .mk p::ks,h=>List.Pairwise.cons (fun q hq=>by
   obtain⟨j,hj⟩:=zLK hq
   exact h 0 (j+1) p q rfl (by simpa using hj) (by omega)) (zM8 ks fun i j p q hi hj hne=>h (i+1) (j+1) p q (by simpa using hi) (by simpa using hj) (by omega))
theorem AbsG.adoptF{C:Ctx}{g:Gh}{σ:Sl}{η:List Ob}{a:Act}{w:World}(h:AbsG C g σ η a w){p:Fn}{b:Nat}(hp:FnOk p)(hv:a.tmps.getD p.d undef=p.v b)(f2:w.heap[b]?=some p.ob)(f3:∀o,¬g.St b o)(f4:∀id,g.blk id≠some b)(f5:C.w0.heap.size<=b)(f6:b<w.heap.size):
  ∃g',AbsG C g' ((p.d,.d (.val (p.v b)))::σ) (η++[p.o b]) a w/\g'.St=g.St/\(∀id c,g'.blk id=some c->g.blk id=some c\/c=b)/\∀{v:Value} {s:SV},RepS g w v s->RepS g' w v s:=by
 have hn:=h.inv.n
 let g':Gh:={ g with blk:=upd g.blk g.n (some b),n:=g.n+1 }
 have hold:∀id,id<g.n->g'.blk id=g.blk id/\g'.cap id=g.cap id/\g'.sz id=g.sz id:=fun id hid=>⟨by simp[g',upd,Nat.ne_of_lt hid],rfl,rfl⟩
 have hbn:g'.blk g.n=some b:=by simp[g',upd]
 have hb':∀id c,g'.blk id=some c->(id<g.n/\g.blk id=some c)\/(id=g.n/\c=b):=by
  intro id c hc
  rcases qBS id g.n with hi|hi|hi
  ·rw[(hold id hi).1]at hc;exact .inl ⟨hi,hc⟩
  ·subst hi;rw[hbn]at hc;injection hc with hc;exact .inr ⟨rfl,hc.symm⟩
  ·have hne:id≠g.n:=by omega
   simp only[g',upd,if_neg hne]at hc
   rw[h.inv.dead id (by omega)]at hc;cases hc
 have kp:=Keep.refl g.St w
 have rx:∀{v:Value} {s:SV},RepS g w v s->RepS g' w v s:=fun r=>r.ext (g':=g') kp hold (Nat.le_succ _)
 refine⟨g',⟨h.defers,h.size,⟨by rw[qAE];show g.n+1=_;rw[hn];rfl,fun id c hc=>?_,fun id hid=>?_,fun i j c hi hj=>?_,fun id o ho=>?_,h.inv.st,h.inv.gl⟩,h.os,h.tape,h.output,h.wsize,h.heap,h.keep,h.new,fun id c hc hr=>?_,fun u=>?_⟩,rfl,fun id c hc=>?_,rx⟩
 ·rcases hb' id c hc with⟨_,q⟩|⟨_,rfl⟩
  ·exact h.inv.lt id c q
  ·exact f6
 ·have hid:g.n+1<=id:=hid
  have hne:id≠g.n:=by omega
  simp only[g',upd,if_neg hne];exact h.inv.dead id (by omega)
 ·rcases hb' i c hi with⟨q1,q2⟩|⟨q1,q2⟩ <;> rcases hb' j c hj with⟨q3,q4⟩|⟨q3,q4⟩
  ·exact h.inv.inj i j c q2 q4
  ·exact absurd (q4▸q2) (f4 i)
  ·exact absurd (q2▸q4) (f4 j)
  ·omega
 ·rw[List.getElem?_append]at ho
  split at ho
  ·rename_i hc
   exact(h.inv.ob id o ho).ext (g':=g') kp hold (Nat.le_succ _) (by omega) (fun _ _=>⟨rfl,fun _=>Iff.rfl⟩)
  ·rename_i hc
   have hid:id=g.n:=by
    have:=(qAA.1 ho).1
    simp at this;omega
   subst hid
   have:g.n-η.length=0:=by omega
   rw[this]at ho
   simp at ho;subst ho
   exact hp.ok g' w g.n b hbn f2 f3
 ·rcases hb' id c hc with⟨_,q⟩|⟨_,rfl⟩
  ·exact h.own id c q hr
  ·exact .inl f5
 ·rw[zBx]
  split
  ·rename_i e;subst e
   show RepD _ _ _ _
   rw[hv];exact .val _
  ·exact rx (h.rep u)
 ·rcases hb' id c hc with⟨_,q⟩|⟨_,q⟩
  ·exact .inl q
  ·exact .inr q
theorem AbsG.adoptAllF{C:Ctx}{a:Act}{w:World}: ∀(pn:List Fn) (g:Gh) (σ:Sl) (η:List Ob),AbsG C g σ η a w->(∀p∈pn,FnOk p)->(∀p∈pn,FreshF C g w (a.tmps.getD p.d undef) p)->
  (pn.Pairwise fun p q=>∀b c,a.tmps.getD p.d undef=p.v b->a.tmps.getD q.d undef=q.v c->b≠c)->∃bs:List Nat,bs.length=pn.length/\Abs C (adσF pn bs σ) (η++adηF pn bs) a w
 |[],g,σ,η,h,_,_,_=>⟨[],rfl,g,by simpa[adσF,adηF]using h⟩
 |p::r,g,σ,η,h,hok,hf,hp=>by
  obtain⟨hp1,hp2⟩:=List.pairwise_cons.1 hp
  obtain⟨b,hv,f2,f3,f4,f5,f6⟩:=hf p (by simp)
  obtain⟨g',h1,h2,h3,h4⟩:=h.adoptF (hok p (by simp)) hv f2 f3 f4 f5 f6
  have hrest:∀q∈r,FreshF C g' w (a.tmps.getD q.d undef) q:=fun q hq=>by
   obtain⟨c,hc,k2,k3,k4,k5,k6⟩:=hf q (by simp[hq])
   refine⟨c,hc,k2,by rw[h2];exact k3,fun id hid=>?_,k5,k6⟩
   rcases h3 id c hid with h5|h5
   ·exact k4 id h5
   ·exact hp1 q hq b c hv hc h5.symm
  obtain⟨bs,e1,e2⟩:=AbsG.adoptAllF r g' _ _ h1 (fun q hq=>hok q (by simp[hq])) hrest hp2
  refine⟨b::bs,by simp[e1],?_⟩
  simpa[adσF,adηF,List.append_assoc]using e2
theorem zSt{C:Ctx}{Q:Exit->Sl->List Ob->Prop}{σ:Sl}{η:List Ob}{id:Nat}{l:List Oper}(ks:List SegF)(hm:C.P.follows .mixedOrders=true)(hB:zGQ l=true)
  (hbar:ks.length=l.length\/zIc l.toArray (l.length-ks.length-1)=true) (hs:zSB C l η 0 l ks σ)
  (h:∀bs:List Nat,bs.length=(pnF ks).length->alex C true l.toArray (l.drop ks.length) (Q .normal) (adσF (pnF ks) bs (zR9 l ks σ)) (η++adηF (pnF ks) bs)):awp C (.region id l.toArray true) Q σ η:=by
 intro R hR a w ⟨g,hg⟩
 have hd:Abs C σ η a { w with drawn:=w.drawn+1 }:=⟨g,hg.grow ⟨rfl,rfl,rfl,rfl,rfl,rfl,rfl,qAP _,fun _ _=>rfl,fun _ _ h=>h,fun _ _ h=>.inl h,hg.inv.st⟩⟩
 have hkl:=zLA l ks 0 σ hs
 have hat:=zQk l ks 0 σ hs
 let I:(Nat->Bool)->Act->World->Prop:=fun f a w=>∃g,AbsG C g (pst σ 0 l (ks.map SegF.sv) f) η a w/\(∀(j:Nat) p,ks[j]?=some (.mk p)->f j=true->FreshF C g w (a.tmps.getD p.d undef) p)/\
  (∀(i j:Nat) p q,ks[i]?=some (.mk p)->ks[j]?=some (.mk q)->i≠j->f i=true->f j=true->∀b c,a.tmps.getD p.d undef=p.v b->a.tmps.getD q.d undef=q.v c->b≠c)
 have hlk:∀{j:Nat} {k:SegF},ks[j]?=some k->∃o,l[j]?=some o:=fun hk=>⟨_,qAB (qAa (qAA.1 hk).1 hkl)⟩
 refine wp_region_any hm (zMF (C:=C) (K:=Q .normal) (fun σ' η' a w hk hab=>hR _ _ _ _ _ hk hab) hB ks.length hkl hbar I ?_ ?_ _ _ a _ (by simp) ?_ ?_ (fun i _ hi=>?_) ?_)
 ·intro f a w hf ⟨g,h1,h2,h3⟩
  rw[zN8 l ks 0 σ f (fun i hi=>by rw[qAY];exact hf i hi)]at h1
  obtain⟨bs,e1,e2⟩:=h1.adoptAllF _ _ _ _ (fun p hp=>by
   obtain⟨j,hj⟩:=zLK hp
   obtain⟨o,hlj⟩:=hlk hj
   exact(hat j o _ hlj hj).2.1.1) (fun p hp=>by
   obtain⟨j,hj⟩:=zLK hp
   exact h2 j p hj (hf j (qAA.1 hj).1)) (zM8 ks fun i j p q hi hj hne=>h3 i j p q hi hj hne (hf i (qAA.1 hi).1) (hf j (qAA.1 hj).1))
  exact⟨_,_,h bs e1,e2⟩
 ·intro f j o a w hjm hlj hun hcl hdep ⟨g,h1,h2,h3⟩
  obtain⟨k,hk⟩:∃k,ks[j]?=some k:=⟨_,qAB hjm⟩
  have hkk:=hat j o k hlj hk
  rw[qAY]at hkk
  have same:=zIN (σ:=σ) (ss:=ks.map SegF.sv) hB hlj hun hcl hdep
  have hsk:(ks.map SegF.sv)[j]?=some k.sv:=by rw[qAH,hk];rfl
  have next:=zIO (σ:=σ) hB hlj hsk hun hcl
  have stay:∀(i:Nat) p v,ks[i]?=some (.mk p)->i≠j->(a.put o.dst v).tmps.getD p.d undef=a.tmps.getD p.d undef:=by
   intro i p v hi hne
   obtain⟨o',hli⟩:=hlk hi
   have hon:=(hat i _ _ hli hi).2.2.2.2
   rw[qAY]at hon
   have hne2:=zLN hon hlj (fun e=>hne e.symm)
   cases hod:o.dst with
   |none=>rfl
   |some e =>
    have:e≠p.d:=fun h=>hne2 (by rw[hod,h])
    simp[Act.put,Array.getD_eq_getD_getElem?,Array.getElem?_setIfInBounds_ne this]
  have hmk:∀i,(i==j||f i)=true->i≠j->f i=true:=fun i h hne=>by
   have:(i==j)=false:=by simpa using hne
   simpa[this]using h
  cases k with
  |y s =>
   left
   obtain⟨hdst,hw,hy⟩:=hkk
   refine⟨hw.wanted (g:=g) (w:=w) fun t q b hgd ht=>by rw[<-same t (zFI hgd ht)];exact h1.rep t,?_⟩
   have hy':Ylds C.P η (pst σ 0 l (ks.map SegF.sv) f) o s:=hy.congr fun x hx=>by
    cases x with
    |tmp t=>exact same t (zBv hx)
    |_=>rfl
   have fin:∀v g' w',Grow g w g' w'->RepS g' w' v s->I (fun i=>i==j||f i) (a.put o.dst v) w':=fun v g' w' hgr hr=>by
    have hab:=(h1.grow hgr).put hdst hr
    refine⟨g',hab.get_eq fun t=>.inl (next t).symm,fun i p hi hfi=>?_,fun i i2 p q hi hi2 hne hf1 hf2=>?_⟩
    ·have hne:i≠j:=fun e=>by subst e;rw[hk]at hi;cases hi
     rw[stay i p v hi hne]
     exact(h2 i p hi (hmk i hfi hne)).grow hgr
    ·have hne1:i≠j:=fun e=>by subst e;rw[hk]at hi;cases hi
     have hne2:i2≠j:=fun e=>by subst e;rw[hk]at hi2;cases hi2
     rw[stay i p v hi hne1,stay i2 q v hi2 hne2]
     exact h3 i i2 p q hi hi2 hne (hmk i hf1 hne1) (hmk i2 hf2 hne2)
   unfold Oper.wp
   rcases hy' g w a h1.inv (fun x _=>h1.eval x)with⟨v,g',w',hr,hg,hs'⟩|⟨fn,args,hr,hc⟩
   ·rw[hr];exact fin v g' w' hg hs'
   ·rw[hr,Oper.upon_enter]
    refine hc.mono fun e w' ⟨v,g',he,hg,hs'⟩=>?_
    subst he
    exact fin v g' w' hg hs'
  |mk p =>
   left
   obtain⟨hdst,q1,q2,q3,q4⟩:=hkk
   refine⟨by unfold Region.wanted;rw[q2],?_⟩
   have q1':MkF C.P o (pst σ 0 l (ks.map SegF.sv) f) p:=q1.congr fun x hx=>by
    cases x with
    |tmp t=>exact same t (zBv hx)
    |_=>rfl
   have hrun:=q1'.2 a.eval g w fun x _=>h1.eval x
   have hgr:Grow g w g (w.alloc p.ob):=⟨rfl,rfl,rfl,rfl,rfl,rfl,rfl,by simp,fun k hk=>Below.heap_alloc w _ k hk,fun _ _ h=>h,fun _ _ h=>.inl h,fun b o hb=>qAa (h1.inv.st b o hb) (by simp)⟩
   unfold Oper.wp
   rw[hrun]
   have hab:=(h1.grow hgr).put (d:=o.dst) (v:=p.v w.heap.size) (s:=.top) hdst trivial
   have hnew:(a.put o.dst (p.v w.heap.size)).tmps.getD p.d undef=p.v w.heap.size:=by
    rw[q3]
    have hlt:p.d<a.tmps.size:=by rw[q3]at hdst;rw[h1.size];simpa[zEg,Nat.blt_eq]using hdst
    simp[Act.put,hlt]
   have hold:∀(i:Nat) q,ks[i]?=some (.mk q)->f i=true->∀c,a.tmps.getD q.d undef=q.v c->c<w.heap.size:=fun i q hi hfi c hc=>by
    obtain⟨c',e1,_,_,_,_,f6⟩:=h2 i q hi hfi
    obtain⟨oq,hlq⟩:=hlk hi
    have:c=c':=(hat i oq _ hlq hi).2.1.1.inj (hc.symm.trans e1)
    omega
   have vinj:∀{b c:Nat},p.v b=p.v c->b=c:=fun e1=>q1.1.inj e1
   refine⟨g,hab.get_eq fun t=>.inl (next t).symm,fun i q hi hfi=>?_,fun i i2 q q' hi hi2 hne hf1 hf2 b c hb hc=>?_⟩
   ·by_cases hij:i=j
    ·subst hij
     rw[hk]at hi;injection hi with hi;injection hi with hi;subst hi
     rw[hnew]
     exact⟨w.heap.size,rfl,_root_.Go.heap_alloc_new w _,fun o ho=>absurd (h1.inv.st _ o ho) (by omega),fun id hid=>absurd (h1.inv.lt id _ hid) (by omega),h1.wsize,by simp⟩
    ·rw[stay i q _ hi hij]
     exact(h2 i q hi (hmk i hfi hij)).grow hgr
   ·by_cases hij:i=j
    ·have hij2:i2≠j:=fun e=>hne (hij.trans e.symm)
     subst hij
     rw[hk]at hi;injection hi with hi;injection hi with hi;subst hi
     rw[hnew]at hb
     rw[stay i2 q' _ hi2 hij2]at hc
     have h5:=hold i2 q' hi2 (hmk i2 hf2 hij2) c hc
     have h6:=vinj hb
     omega
    ·by_cases hij2:i2=j
     ·subst hij2
      rw[hk]at hi2;injection hi2 with hi2;injection hi2 with hi2;subst hi2
      rw[hnew]at hc
      rw[stay i q _ hi hij]at hb
      have h5:=hold i q hi (hmk i hf1 hij) b hb
      have h6:=vinj hc
      omega
     ·rw[stay i q _ hi hij]at hb
      rw[stay i2 q' _ hi2 hij2]at hc
      exact h3 i i2 q q' hi hi2 hne (hmk i hf1 hij) (hmk i2 hf2 hij2) b c hb hc
 ·refine qAu (qBD _ _) (by simp)
 ·intro j o hj hl
  have hjl:j<l.length:=(qAA.1 hj).1
  rw[qAL,qAK (by simpa using hjl)]at hl
  simp at hl
 ·rw[qAL,qAK (by simpa using hi)]
  simp
 ·obtain⟨g',hg'⟩:=hd
  have hf0:∀i,i<l.length->(Array.replicate l.toArray.size false).getD i true=false:=fun i hi=>by
   rw[qAL,qAK (by simpa using hi)];simp
  refine⟨g',hg'.get_eq fun t=>.inl ?_,fun j p hj hf=>?_,fun i j p q hi _ _ hf _=>?_⟩
  ·rw[zCW t l (ks.map SegF.sv) σ σ 0 _ (fun _=>false) rfl (fun i o hi hne=>?_),zD4]
   rw[qAY,hf0 i (qAA.1 hi).1]at hne
   exact absurd rfl hne
  ·have:=hf0 j (by have:=(qAA.1 hj).1;omega)
   simp only[this]at hf;cases hf
  ·have:=hf0 i (by have:=(qAA.1 hi).1;omega)
   simp only[this]at hf;cases hf
def zdV(d:Nat)(e:TypeId)(n:Nat)(zd:D)(us:Array Value): Fn:=⟨d,fun b=>.slice (some ⟨b,0,none⟩) n n,.cells us e (0,0),fun b=>.bx (some b) (some e) ((zCM (List.replicate n zd)).map .d)⟩
def zbU(d:Nat): Fn:=⟨d,fun b=>.map (some b),.map #[] 0,fun b=>.map (some b) []⟩
theorem zX1(d:Nat): FnOk (zbU d) :=
 ⟨fun h=>by injection h with h;injection h,fun g w id b hb hh hst=>zXX.2 ⟨b, #[],hb,hh,rfl,fun j e p he=>by simp at he,hst,fun _ h=>(qBA h).symm⟩⟩
theorem zXg{P:Program}{σ:Sl}{d:Nat}{t ty:TypeId}{pos:String}{after:Array Edge}{gd:Option (Nat×Bool)}: MkF P ⟨some d,.makeMap t none,ty,pos,after,gd⟩ σ (zbU d) :=
 ⟨zX1 d,fun _ _ _ _=>rfl⟩
theorem zXf{P:Program}{t e:TypeId}{sz by' n:Nat}{zd:D}(he:zBb P t=some e)(hs:zA3 P t=some sz)(hz:zKH P e=some zd)(hzl:zd.flat.length=sz)(hp:Nat.blt 0 sz=true)(hb:zCX P t=some by')(hn:n*by'<=281474976710656/\n<=281474976710656):
  ∃us,∀(d:Nat) (σ:Sl) (x y:Operand) (k k':IntKind) (ty:TypeId) (pos:String) (after:Array Edge) (gd:Option (Nat×Bool)),oval σ x=.d (.val (.int k (n:Int)))->oval σ y=.d (.val (.int k' (n:Int)))->MkF P ⟨some d,.makeSlice t x y,ty,pos,after,gd⟩ σ (zdV d e n zd us):=by
 have hp:0<sz:=by simpa using hp
 obtain⟨e',i,hu,hi,hsz⟩:=zBL hs
 have:e'=e:=by have:=zCE he;rw[hu]at this;injection this with this;injection this
 subst this
 have hby:i.bytes=by':=by
  obtain⟨e2,i2,h1,h2,h3⟩:=zDh hb
  rw[hu]at h1;injection h1 with h1;injection h1 with h1;subst h1
  rw[hi]at h2;injection h2 with h2;subst h2;exact h3
 obtain⟨z,hzz,hzs,hz1,hzr⟩:=zIC hi hz
 have hg0:∀(j:Nat) (u:Value),(madeCells z.cells (n*i.size))[j]?=some u->j<n*sz/\z.cells[j%sz]?=some u:=by
  intro j u hu
  unfold madeCells at hu
  rw[hsz]at hu
  obtain⟨hj,hu⟩:=qAt.1 hu
  simp at hj
  simp only[Array.getElem_map,Array.getElem_range]at hu
  have hm:j%sz<z.cells.size:=by rw[hzs,hzl];exact Nat.mod_lt _ hp
  refine⟨hj,?_⟩
  rw[hzs,hzl]at hu
  rw[getElem!_pos z.cells (j%sz) hm]at hu
  rw[qAK hm,hu]
 refine⟨madeCells z.cells (n*i.size),fun d σ x y k k' ty pos after gd hx hy=>⟨⟨fun h=>?_,fun g w id b hbk hh hst=>?_⟩,fun ev g w ho=>?_⟩⟩
 ·injection h with h;injection h with h;injection h
 ·refine⟨b,e',_,hbk,hh,?_,fun u hm=>?_,fun j u s hu' hs'=>?_,hst,fun _ h=>(qBA h).symm,fun _ h=>(qBA h).symm⟩
  ·rw[size_madeCells,qAC,zB9 (sz:=sz) (fun x hx=>by rw[List.eq_of_mem_replicate hx];exact hzl),qAp,hsz]
  ·obtain⟨j,hj⟩:=Array.getElem?_of_mem hm
   exact hz1 u (qBE (hg0 j u hj).2)
  ·obtain⟨h1,h2⟩:=hg0 j u hu'
   rw[qAH,zOv n zd j (by rw[hzl];exact hp) (by rw[hzl];exact h1),hzl]at hs'
   cases hq:zd.flat[j%sz]? with
   |none=>rw[hq]at hs';cases hs'
   |some d'=>rw[hq]at hs';injection hs' with hs';subst hs';exact hzr g.St w _ u d' h2 hq
 ·have hxr:=ho x (by simp[Op.operands]);rw[hx]at hxr
  have hyr:=ho y (by simp[Op.operands]);rw[hy]at hyr
  have hrun:=run_make (P:=P) w t e' i z hu hi hzz k k' n n (by omega) (by omega) (by rw[hby,Int.mul_comm,<-Int.natCast_mul];exact Int.ofNat_le.2 hn.1) (by omega)
  simp only[qAn]at hrun
  simp only[execOp,Sem.run_bind,RepD.val_eq hxr,RepD.val_eq hyr,hrun];rfl
section
variable {P:Program}{η:List Ob}{σ:Sl}{dst:Option Nat}{ty:TypeId}{pos:String}{after:Array Edge}{gd:Option (Nat×Bool)}{t:TypeId}
theorem zYb{ps:List (Nat×Operand)}{ds:List (Nat×D)}{pl:List (Nat×Nat)}{zs:List Value}{cs:List D}(hpl:zCj P t=some pl)(hz:zBq P t=some zs)(hp:zLL η σ ps ds)(hf:zOw pl (zs.map .val) (ds.map fun p=>(p.1,p.2.flat))=some cs):
  Ylds P η σ ⟨dst,.build t ps.toArray,ty,pos,after,gd⟩ (.d (.agg cs)):=by
 refine Ylds.same fun g w a hi h=>?_
 obtain⟨e1,e2⟩:=zJv (a:=a) hi ps ds (fun p hp=>h p.2 (by
  simp only[Op.operands,List.mem_toArray,qA5];exact⟨p,hp,rfl⟩)) hp
 obtain⟨cells',r1,r2,r3⟩:=zLo (R:=fun u d=>RepD g.St w u d/\u.oneCell'=true) (cs:=zs.map .val) hpl hz e1 e2 (by simp) (fun i u s hu hs=>by
  rw[qAH,hu]at hs
  simp at hs;subst hs
  exact⟨.val _,(zIB hz).1 u (qAF hu)⟩) hf
 have hall:∀(j:Nat) u,cells'[j]?=some u->u.oneCell'=true:=fun j u hu=>by
  have hj:j<cs.length:=by rw[<-r2];exact(qAt.1 hu).1
  exact(r3 j u _ hu (qAB hj)).2
 refine⟨.agg cells',?_,?_⟩
 ·have:=run_build (P:=P) w t (ps.map fun p=>(p.1,a.eval p.2)).toArray cells' (by simpa using r1)
  simp only[execOp,Sem.run_bind,qBH,this,Result.andThen_ok,Sem.run_pure]
 ·have:=RepD.agg (St:=g.St) (w:=w) cells'.toList cs (by simpa using r2) (fun u hu=>by
   obtain⟨j,hj,rfl⟩:=qBp.1 hu
   exact hall j _ (by rw[Array.getElem_toList];exact qAK _)) (fun j u d hu hd=>(r3 j u d (by simpa using hu) hd).1)
  show RepD _ _ _ _
  simpa using this
end
theorem Abs.cellrowA{C:Ctx}{σ:Sl}{η:List Ob}{a:Act}{w:World}(id q j n cap sz b:Nat){e:TypeId}{cs:List SV}{xs:List D}{kq:Option Nat}{eq:Option TypeId}{cq:List SV}(ho:η[id]?=some (.bx (some b) (some e) cs))(hq:η[q]?=some (.bx kq eq cq))(hne:Nat.beq q id=false)(hc:cq[j]?=some (.d (.val (.slice (some ⟨b,0,none⟩) n cap))))
  (hx:(zCM xs).map SV.d=cs) (hxl:xs.length=cap) (hm:cap<=maxLen) (hf:∀d∈xs,d.flat.length=sz) (h:Abs C σ η a w) :
  Abs C (zGY id σ) (((zGM id η).set id (.buf true e sz xs)).set q (.bx kq eq ((cq.map (SV.kill id)).set j (.buf id n)))) a w:=by
 obtain⟨g,ha⟩:=h
 have hqi:q≠id:=fun c=>by rw[c]at hne;simp at hne
 have hidl:id<η.length:=(qAA.1 ho).1
 have hql:q<η.length:=(qAA.1 hq).1
 obtain⟨b',e',us,o1,o2,o3,o4,o5,o6,o7,o8⟩:=ha.inv.ob id _ ho
 have he:e=e':=o8 e rfl
 subst he
 have hbb:b=b':=o7 b rfl
 subst hbb
 let g':Gh:={ g with cap:=upd g.cap id cap,sz:=upd g.sz id sz }
 have rk:∀{v:Value} {s:SV},RepS g w v s->RepS g' w v (s.kill id):=fun r=>RepS.other (g:=g) (g':=g') (id:=id) (Keep.refl g.St w) (fun i hi=>⟨rfl,by simp[g',upd,hi],by simp[g',upd,hi]⟩) rfl r
 have hfl:(zCM xs).length=cap*sz:=by rw[zB9 hf,hxl]
 refine⟨g',ha.defers,ha.size,⟨by rw[qAZ,qAZ,zD9];exact ha.inv.n,ha.inv.lt,ha.inv.dead,ha.inv.inj,fun i ob hi=>?_,ha.inv.st,ha.inv.gl⟩,ha.os,ha.tape,ha.output,ha.wsize,ha.heap,ha.keep,ha.new,ha.own,fun t=>by rw[zGi];exact rk (ha.rep t)⟩
 have box:∀{k:Option Nat} {et:Option TypeId} {cs:List SV} {i:Nat},ObOk g w i (.bx k et cs)->ObOk g' w i (.bx k et (cs.map (SV.kill id))):=by
  intro k et cs i hob
  obtain⟨b,e,us,h1,h2,h3,h4,h5,h6,h7⟩:=hob
  refine⟨b,e,us,h1,h2,by rw[qAC];exact h3,h4,fun j u s hu hs=>?_,h6,h7⟩
  rw[qAH]at hs
  cases hcs:cs[j]? with
  |none=>rw[hcs]at hs;cases hs
  |some s0 =>
   rw[hcs]at hs;injection hs with hs;subst hs
   exact rk (h5 j u s0 hu hcs)
 rw[qAX]at hi
 split at hi
 ·rename_i hcq;subst hcq
  rw[if_pos (by rw[qAZ,zD9];exact hql)]at hi
  injection hi with hi;subst hi
  obtain⟨b2,e2,us2,h1,h2,h3,h4,h5,h6,h7⟩:=ha.inv.ob q _ hq
  refine⟨b2,e2,us2,h1,h2,by rw[qAZ,qAC];exact h3,h4,fun jj u s hu hs=>?_,h6,h7⟩
  rw[qAX,qAC]at hs
  split at hs
  ·rename_i hjj;subst hjj
   have hjl:j<cq.length:=(qAA.1 hc).1
   rw[if_pos hjl]at hs
   injection hs with hs;subst hs
   have hr:=h5 j u _ hu hc
   have hu2:u=.slice (some ⟨b,0,none⟩) n cap:=RepD.val_eq hr
   refine⟨by show id<g.n;rw[ha.inv.n];exact hidl,?_⟩
   rw[hu2]
   simp[g',upd,o1]
  ·rw[qAH]at hs
   cases hcs:cq[jj]? with
   |none=>rw[hcs]at hs;cases hs
   |some s0 =>
    rw[hcs]at hs;injection hs with hs;subst hs
    exact rk (h5 jj u s0 hu hcs)
 ·rw[qAX]at hi
  split at hi
  ·rename_i hc;subst hc
   rw[if_pos (by rw[zD9];exact hidl)]at hi
   injection hi with hi;subst hi
   have hcl:cs.length=cap*sz:=by rw[<-hx,qAC,hfl]
   refine⟨by simp[g',upd],hf,by simp only[g',upd,if_true];exact hm,by simp only[g',upd,if_true];omega,.inr ⟨b,us,o1,o2,by simp only[g',upd,if_true];omega,fun j u hj hu=>o4 u (qBE hu),fun j u d hu hd=>?_,fun o=>⟨fun h=>absurd h (o6 o),fun h=>by cases h.1⟩⟩⟩
   refine o5 j u (.d d) hu ?_
   rw[<-hx,qAH,hd];rfl
  ·rename_i hc
   rw[zH5]at hi
   cases hη:η[i]? with
   |none=>rw[hη]at hi;cases hi
   |some o0 =>
    rw[hη]at hi
    injection hi with hi
    subst hi
    have hob:=ha.inv.ob i _ hη
    cases o0 with
    |bx k et cs=>exact box hob
    |buf mu e sz xs =>
     have hne:¬i=id:=fun c=>hc c.symm
     obtain⟨h1,h2,h3,h4,h5⟩:=hob
     exact⟨by simp only[g',upd,if_neg hne];exact h1,h2,by simp only[g',upd,if_neg hne];exact h3,by simp only[g',upd,if_neg hne];exact h4,by simp only[g',upd,if_neg hne];exact h5⟩
    |iter s pos=>exact hob
    |mapq q k l=>exact hob
    |miter m since seen st =>
     simp only[Ob.kill]
     split
     ·trivial
     ·exact hob
    |gone=>trivial
theorem zPA{C:Ctx}{σ:Sl}{η:List Ob}{Q:Exit->Sl->List Ob->Prop}{c:Code}(id q j n cap sz b:Nat){e:TypeId}{cs:List SV}{xs:List D}{kq:Option Nat}{eq:Option TypeId}{cq:List SV}(ho:η[id]?=some (.bx (some b) (some e) cs))(hq:η[q]?=some (.bx kq eq cq))(hne:Nat.beq q id=false)(hc:cq[j]?=some (.d (.val (.slice (some ⟨b,0,none⟩) n cap))))
  (hx:(zCM xs).map SV.d=cs) (hxl:xs.length=cap) (hm:cap<=maxLen) (hf:∀d∈xs,d.flat.length=sz)
  (h:awp C c Q (zGY id σ) (((zGM id η).set id (.buf true e sz xs)).set q (.bx kq eq ((cq.map (SV.kill id)).set j (.buf id n))))):awp C c Q σ η:=by
 intro R hR a w hab
 exact h R hR a w (hab.cellrowA id q j n cap sz b ho hq hne hc hx hxl hm hf)
theorem zSv{C:Ctx}{σ:Sl}{η:List Ob}{Q:Exit->Sl->List Ob->Prop}{c:Code}(id q j b:Nat){mq:Bool}{l:List (Value×D)}{kq:Option Nat}{eq:Option TypeId}{cq:List SV}(ho:η[id]?=some (.mapq mq (some b) l))(hq:η[q]?=some (.bx kq eq cq))(hc:cq[j]?=some (.d (.val (.map (some b)))))
  (h:awp C c Q σ (η.set q (.bx kq eq (cq.set j (.mp id))))):awp C c Q σ η:=by
 intro R hR a w ⟨g,ha⟩
 refine h R hR a w ⟨g,{ ha with inv:={ ha.inv with n:=by simpa using ha.inv.n,ob:=fun i o hi=>?_ } }⟩
 have hql:q<η.length:=(qAA.1 hq).1
 have hidl:id<η.length:=(qAA.1 ho).1
 obtain⟨b',es,ck,m1,m2,m3,m4,m5,m6,m7⟩:=ha.inv.ob id _ ho
 have hbb:b=b':=m6 b rfl
 subst hbb
 rw[qAX]at hi
 split at hi
 ·rename_i e;subst e
  try rw[if_pos hql]at hi
  injection hi with hi;subst hi
  obtain⟨b2,e',us,h1,h2,h3,h4,h5,h6,h7⟩:=ha.inv.ob q _ hq
  refine⟨b2,e',us,h1,h2,by simpa using h3,h4,fun m u s' hu hs=>?_,h6,h7⟩
  rw[qAX]at hs
  split at hs
  ·rename_i hm;subst hm
   have hjl:=(qAA.1 hc).1
   try rw[if_pos hjl]at hs
   injection hs with hs;subst hs
   exact⟨by rw[ha.inv.n];exact hidl,b,m1,RepD.val_eq (h5 j u _ hu hc)⟩
  ·exact h5 m u s' hu hs
 ·exact ha.inv.ob i o hi
section
variable {P:Program}{η:List Ob}{σ:Sl}{dst:Option Nat}{ty:TypeId}{pos:String}{after:Array Edge}{gd:Option (Nat×Bool)}{t yt:TypeId}{x y:Operand}
theorem zZJ{a b:List UInt8}(hx:oval σ x=.d (str a))(hy:oval σ y=.d (str b)): Ylds P η σ ⟨dst,.binOp .lss t x y yt,ty,pos,after,gd⟩ (.d (.val (.bool (Op.bytesLess a b)))) :=
 zGW hx hy fun w=>by
  have hg:(eqGuard .lss t x y (.string ⟨a.toArray⟩) (.string ⟨b.toArray⟩)).run P w=.ok () w:=by first|rfl|simp[eqGuard]|simp[go_sem]
  simp only[hg,binOp_string_lss,Sem.run_bind,Sem.run_pure,Result.andThen_ok,ByteArray.toList_mk]
theorem zQJ{q len:Nat}{n v:Int}{k:IntKind}{tab:List Int}(hG:∀(St:Stab) (w:World),Glob St w->(∀o,St q o)/\∃e,w.heap[q]?=some (.cells (tab.map fun z=>Value.int .i64 z).toArray e (0,0)))(hy:oval σ y=.d (.val (.int k n)))(hs:zSw P t=some (len,1))(h:0<=n/\n<(len:Int))(hv:tab[n.toNat]?=some v):
  Ylds P η σ ⟨dst,.indexAddr t (.global q) y,ty,pos,after,gd⟩ (.rptr [.val (.int .i64 v)]):=by
 obtain⟨e,i,hu,hinf,hsz⟩:=zMb hs
 refine Ylds.same fun g w a hi hr=>?_
 have hyr:=hr y (by simp[Op.operands])
 rw[hy]at hyr
 obtain⟨hst,e2,hh⟩:=hG g.St w hi.gl
 refine⟨.pointer (some ⟨q,n.toNat,none⟩),?_,⟨⟨q,n.toNat,none⟩,[.int .i64 v],rfl,rfl,by simp;rfl,fun j u hu'=>?_,fun j u d hu' hd=>?_⟩⟩
 ·have e1:a.eval (.global q)=.pointer (some ⟨q,0,none⟩):=rfl
  simp[execOp,e1,RepD.val_eq hyr,Instr.indexAt,asIntOf,Instr.sureAddr,run_underlying hu,h.1,h.2,sizeOf,typeInfo,hinf,hsz,Addr.add_lit]
 ·match j,hu' with
  |0,hu' =>
   injection hu' with hu';subst hu'
   refine⟨hst _,?_⟩
   show w.cell? ⟨q,n.toNat+0,none⟩=_
   rw[cell_of_row w q _ _ e2 (0,0) hh,qA6]
   simp[hv]
  |j+1,hu'=>simp at hu'
 ·match j,hu',hd with
  |0,hu',hd=>injection hu' with hu';injection hd with hd;subst hu';subst hd;exact .val _
  |j+1,hu',hd=>simp at hu'
end
section
variable {P:Program}{η:List Ob}{σ:Sl}{dst:Option Nat}{ty:TypeId}{pos:String}{after:Array Edge}{gd:Option (Nat×Bool)}{t:TypeId}{x y:Operand}
theorem zdy{sz e n:Nat}{xs:List Operand}{ds:List D}(he:zBb P t=some e)(hs:zA3 P t=some sz)(hz:(zBq P e).isSome=true)(hp:Nat.blt 0 sz=true)(hb:Nat.ble (n*sz) 16777216=true){parts:Array (Nat×Operand)}(hparts:parts=((xs.zipIdx 0).map fun x=>(x.2,x.1)).toArray)
  (hl:xs.length=n) (hc:CoL η σ xs ds) (hf:∀d∈ds,d.flat.length=sz) (hok:ds.all okc=true):Ylds P η σ ⟨dst,.buildSlice t n parts,ty,pos,after,gd⟩ (.d (.tsl ds)):=by
 have hp:0<sz:=by simpa using hp
 have hb:=qAO hb
 subst hparts
 intro g w a hinv hop
 refine .inl ?_
 obtain⟨e',i,hu,hi,hsz⟩:=zBL hs
 have:e'=e:=by have:=zCE he;rw[hu]at this;injection this with this;injection this
 subst this
 have hrep:=CoL.rep (a:=a) hinv xs ds (fun x hx=>hop x (by
  simp only[Op.operands,qBt,List.mem_toArray,qA5]
  obtain⟨j,hj,rfl⟩:=qBp.1 hx
  exact⟨(xs[j],j),by rw[qBp];exact⟨j,by simpa using hj,by simp⟩,rfl⟩)) hc
 have hlen:=hrep.len
 rw[qAC]at hlen
 obtain⟨i1,i2⟩:=RepDs.cells _ ds hrep hf hok
 have hfl:=zHa (sz:=sz) (xs.map a.eval) (fun v hv=>(i1 v hv).1)
 rw[qAC,hl]at hfl
 let us:=((xs.map a.eval).flatMap fun v=>v.cells.toList).toArray
 have hus:us.size=n*sz:=by simpa[us]using hfl
 have hpe:((((xs.zipIdx 0).map fun x=>(x.2,x.1)).toArray).map fun (p:Nat×Operand)=>(p.1,a.eval p.2)).toList=(((xs.map a.eval).zipIdx 0).map fun x=>(x.2,x.1)):=by
  simp[List.zipIdx_map,List.map_map,Function.comp_def]
 have hrun:(Instr.buildSlice t n ((((xs.zipIdx 0).map fun x=>(x.2,x.1)).toArray).map fun (p:Nat×Operand)=>(p.1,a.eval p.2))).run P w=.ok (.slice (some ⟨w.heap.size,0,none⟩) n n) (w.alloc (.cells us e')):=by
  have hzz:∃z,i.zero=some z:=by
   unfold zBq at hz;rw[hi]at hz
   cases hq:i.zero with
   |none=>simp[hq]at hz
   |some z=>exact⟨z,rfl⟩
  obtain⟨z,hzz⟩:=hzz
  by_cases h0:n=0
  ·subst h0
   have hx:xs=[]:=qAq hl
   subst hx
   simp[Instr.buildSlice,run_underlying hu,sizeOf,typeInfo,hi,newRow,Instr.fill,us,Array.range_zero']
  ·have hne:¬n*i.size=0:=by rw[hsz];intro h;rcases Nat.mul_eq_zero.1 h with h|h <;> omega
   have hfw:=Great.fill_whole hp (xs.map a.eval) ((Array.range (n*i.size)).map (z.cells[· % z.cells.size]!)) (fun v hv=>(i1 v hv).1) (by simp[hl,hsz])
   exact run_buildSlice w t e' n _ us i z hu hi hzz (by rw[hsz];omega) hne (by rw[hpe];rw[<-hsz]at hfw;exact hfw)
 let g':Gh:={ g with St:=fun b o=>g.St b o\/(b=w.heap.size/\o<n*sz) }
 have hgr:Grow g w g' (w.alloc (.cells us e')):=⟨rfl,rfl,rfl,rfl,rfl,rfl,rfl,by simp,fun k hk=>Below.heap_alloc w _ k hk,fun _ _ h=>.inl h,fun b o h=>h.imp_right fun h=>by omega,fun b o h=>by
  rcases h with h|h
  ·exact qAa (hinv.st b o h) (by simp)
  ·rw[h.1];simp⟩
 refine⟨_,g',_,by simp only[execOp,Sem.run_bind];rw[hrun];rfl,hgr,?_⟩
 have hfds:(zCM ds).length=n*sz:=by rw[zB9 hf,<-hlen,hl]
 have hn63:n<=maxLen:=by simp only[maxLen];have:n*1<=n*sz:=Nat.mul_le_mul_left _ hp;omega
 refine RepD.tsl _ n ds ?_
 refine RepD.slice _ n n sz ds us.toList (by omega) (qAP _) hn63 hf (by rw[qAT,hus,hfds]) (fun u hu=>?_) (fun h0=>⟨_,rfl,fun j u hj=>⟨.inr ⟨rfl,?_⟩,?_⟩⟩) (fun j u d hu hd=>?_)
 ·simp only[us,List.mem_flatMap]at hu
  obtain⟨v,hv,hm⟩:=hu
  exact(i1 v hv).2 u (by simpa using hm)
 ·have:=(qAA.1 hj).1
  rw[qAT,hus]at this;simpa using this
 ·rw[Addr.add_lit,qAY,cell_of_row _ _ j us e' (0,0) (_root_.Go.heap_alloc_new w _)]
  rw[<-qA4];exact hj
 ·exact(i2 j u d (by simpa[us]using hu) hd).keep (hgr.keep hinv.st)
theorem zC9{sz e:Nat}(he:zBb P t=some e)(hs:zA3 P t=some sz)(hz:(zBq P e).isSome=true)(hp:Nat.blt 0 sz=true): Ylds P η σ ⟨dst,.buildSlice t 0 #[],ty,pos,after,gd⟩ (.d (.tsl [])) :=
 zdy (xs:=[]) he hs hz hp (by simp) (by rfl) rfl zAH (by simp) rfl
theorem zbw{sz:Nat}(hx:oval σ x=.d (.tsl []))(hy:Co η (oval σ y) (.slice []))(hs:zA3 P t=some sz):
  Ylds P η σ ⟨dst,.call ⟨.builtin .append, #[x,y], #[t,t]⟩,ty,pos,after,gd⟩ (.d (.slice [])):=by
 obtain⟨e',i,hu,hi',hsz⟩:=zBL hs
 refine Ylds.same fun g w a hi h=>?_
 have hxr:=h x (by simp[Op.operands,Call.operands]);rw[hx]at hxr
 obtain⟨sa,hxv,hxr⟩:∃sa,a.eval x=.slice sa 0 0/\RepD g.St w (.slice sa 0 0) (.slice []):=by
  change RepD _ _ _ _ at hxr
  generalize a.eval x=v at hxr
  cases hxr with
  |tsl sa n xs h =>
   have:n=([]:List D).length:=by cases h;assumption
   subst this;exact⟨sa,rfl,h⟩
 have hyr:=(hy.rep hi (h y (by simp[Op.operands,Call.operands]))).open_slice (sz:=i.size) (by simp)
 obtain⟨ya,yc,news,hyv,_,_,hnl,hn1,hncell,hnrep⟩:=hyr
 refine⟨.slice sa 0 0,?_,hxr⟩
 have hrun:(Builtin.append_ #[t,t] ty #[.slice sa 0 0,.slice ya 0 yc]).run P w=.ok (.slice sa 0 0) w:=by
  cases sa <;> cases ya <;> simp[Builtin.append_,run_underlying hu,sizeOf,typeInfo,hi',Builtin.lenOf,Builtin.firstCells,loadCells,loadCellsFrom,storeCells]
 simp only[execOp,resolve,invoke,builtin,Sem.run_bind,Sem.run_pure,Result.andThen_ok,qBH,qAr,qBf,hxv,hyv]
 rw[show ([]:List D).length=0 from rfl,hrun];rfl
theorem zEH{e sz by':Nat}{ys:List D}(hx:oval σ x=.d (.tsl []))(hy:Co η (oval σ y) (.slice ys))
  (he:zBb P t=some e) (hs:zA3 P t=some sz) (hz:zC6 P e=some sz) (hb:zCX P t=some by') (hf:∀d∈ys,d.flat.length=sz) (hlen:ys.length*by'<=140737488355328/\ys.length<=140737488355328) :
  Ylds P η σ ⟨dst,.call ⟨.builtin .append, #[x,y], #[t,t]⟩,ty,pos,after,gd⟩ (.d (.slice ys)):=by
 cases ys with
 |nil=>exact zbw hx hy hs
 |cons y0 r =>
  have:=zd0 (P:=P) (dst:=dst) (ty:=ty) (pos:=pos) (after:=after) (gd:=gd) hx hy (by simp) he hs hz hb (by simp) hf (by simpa using hlen)
  simpa using this
end
