/- Parts. -/
import Derived.WalkKit
import Derived.Below
import Derived.ScopeJumps
import Derived.Still
import Derived.Maps.AppendAt
import Derived.Deep.Slices
import Derived.Lib.ItoaNum
import Derived.Lib.Space
import Derived.Great.BuildSlice
import Derived.Laws.MakeOwn
import Derived.Lib.AppendZeros
import Derived.Laws.Tables
import Derived.Laws.RangeAny
import Derived.Laws.Strings3
import Derived.Laws.Unary
import Derived.Laws.Slices
import Derived.Laws.BytesString
import Derived.Test.YtjcgiiedaccjpaaGreatDoorPAD
set_option maxHeartbeats 16000000
namespace Go
abbrev pAA:List Value:=[Value.int IntKind.i64 0,Value.int IntKind.i64 0,Value.string ByteArray.empty,Value.int IntKind.i64 0,Value.slice none 0 0,Value.int IntKind.i64 0,Value.string ByteArray.empty,Value.slice none 0 0]
abbrev pAB:List Value:=[Value.slice none 0 0,Value.slice none 0 0,Value.int IntKind.i64 0,Value.int IntKind.i64 0,Value.slice none 0 0,Value.slice none 0 0,Value.int IntKind.i64 0,Value.int IntKind.i64 0]
theorem oM{p:Prop}(h:p:=by omega):p:=h
theorem kR{p:Prop}(h:p:=by kernel_rfl):p:=h
theorem dC{p:Prop}(h:p:=by decide):p:=h
theorem sI{p:Prop}(h:p:=by simp):p:=h
theorem dK{p:Prop}(h:p:=by decide +kernel):p:=h
theorem sO{p:Prop}(h:p:=by simp[Op.operands]):p:=h
theorem pAC{p:Prop}(h:p:=by first|(apply zAG;exact rfl;(with_reducible exact zAS);exact rfl;exact rfl)|(apply zAY;exact rfl;(with_reducible exact zAS);exact rfl;exact rfl;exact rfl)):p:=h
theorem pAD{p:Prop}(h:p:=by exact ⟨⟨rfl,zAY rfl zAS rfl rfl rfl⟩,rfl,⟨rfl,zAC rfl⟩,rfl,⟨rfl,zBG rfl rfl zBK oM (wget hg0) rfl dC⟩,rfl,⟨rfl,zAR rfl zAa⟩,rfl,⟨rfl,zAC rfl⟩,rfl,⟨rfl,zAP zDb hX0 (zAL rfl (zAL rfl (zAL rfl zAF)))⟩,rfl,⟨rfl,zAC rfl⟩,rfl,⟨rfl,zAb rfl rfl⟩,rfl,⟨rfl,zAb rfl rfl⟩,rfl,⟨rfl,rfl,rfl,zBS,by kernel_rfl,rfl⟩,rfl,⟨rfl,rfl,rfl,zBp,by kernel_rfl,rfl⟩,rfl,⟨⟨_,_,_,_,_,rfl,rfl,rfl,zAd,rfl⟩,rfl,rfl,rfl,rfl,rfl⟩,⟨⟨_,_,_,_,_,rfl,rfl,rfl,zAS,rfl⟩,rfl,rfl,rfl,rfl,rfl⟩,trivial⟩):p:=h
theorem pAE{p:Prop}(h:p:=by exact ⟨⟨rfl,zAU rfl⟩,rfl,⟨rfl,zAn rfl⟩,rfl,⟨rfl,zAI rfl zBO⟩,rfl,⟨rfl,zAG rfl zAx rfl rfl⟩,rfl,⟨rfl,zAC rfl⟩,rfl,⟨rfl,zFf hx rfl rfl zAe⟩,rfl,⟨rfl,zAl rfl zAh rfl⟩,rfl,⟨rfl,zAU rfl⟩,rfl,⟨rfl,zAn rfl⟩,rfl,⟨rfl,zAI rfl zBO⟩,rfl,⟨rfl,zAG rfl zAx rfl rfl⟩,rfl,⟨rfl,zAC rfl⟩,rfl,⟨rfl,zAP zC7 hK (zAL rfl (zAL rfl zAF))⟩,rfl,⟨rfl,rfl,rfl,zA2,by kernel_rfl,rfl⟩,rfl,⟨⟨_,_,_,_,_,rfl,rfl,rfl,zAh,rfl⟩,rfl,rfl,rfl,rfl,rfl⟩,⟨rfl,zAB rfl⟩,rfl,trivial⟩):p:=h
theorem pAF{p:Prop}(h:p:=by exact ⟨⟨rfl,zAU rfl⟩,rfl,⟨rfl,zAn rfl⟩,rfl,⟨rfl,zAI rfl zBW⟩,rfl,⟨rfl,zAG rfl zA8 rfl rfl⟩,rfl,⟨rfl,zAU rfl⟩,rfl,⟨rfl,zAn rfl⟩,rfl,⟨rfl,zAI rfl zFH⟩,rfl,⟨rfl,zAG rfl zCK rfl rfl⟩,rfl,⟨rfl,zAU rfl⟩,rfl,⟨rfl,zAn rfl⟩,rfl,⟨rfl,zAI rfl zB9⟩,rfl,⟨rfl,zAG rfl zLl rfl rfl⟩,rfl,⟨rfl,zAo (cs:=[i64 s.fin,.slice [],i64 0,.slice (s.out.map str),i64 (s.steps:Int)]) zEB zCO (PD_d rfl rfl (PD_d rfl rfl (PD_d rfl rfl zBE))) rfl⟩,rfl,⟨rfl,rfl,rfl,zCO,by kernel_rfl,rfl⟩,rfl,⟨⟨_,_,_,_,_,rfl,rfl,rfl,zBs,rfl⟩,rfl,rfl,rfl,rfl,rfl⟩,trivial⟩):p:=h
theorem pAG{p:Prop}(h:p:=by simp[Op.operands,Call.operands]):p:=h
theorem pAH{p:Prop}(h:p:=by simpa using hi):p:=h
theorem pAI{p:Prop}(h:p:=by simpa using hu):p:=h
theorem pAJ{p:Prop}(h:p:=by simp;omega):p:=h
theorem pAK{p:Prop}(h:p:=by simpa using hj):p:=h
theorem pAL{p:Prop}(h:p:=by have:=(qAA.1 hj).1;omega):p:=h
end Go
namespace Go.Sx
inductive D where
 |val (v:Value)
 |agg (cs:List D)
 |slice (xs:List D)
 |tup (ds:List D)
 |ref (cs:List D)
 |clo (f:FuncId) (ds:List D)
 |tsl (xs:List D)
 |ifc (t:TypeId) (d:D)
 deriving Inhabited
def D.flat: D->List D
 | .agg cs=>cs
 |d=>[d]
def zC2(xs:List D): List D:=xs.flatMap D.flat
abbrev Stab:=Nat->Nat->Prop
def Cell(St:Stab)(w:World)(ad:Addr)(j:Nat)(u:Value): Prop:=St ad.block (ad.off+j)/\w.cell? (ad.add j)=some u
inductive RepD (St:Stab) (w:World):Value->D->Prop
 |val (v:Value):RepD St w v (.val v)
 |agg (vs:List Value) (cs:List D) (hl:vs.length=cs.length) (h1:∀u∈vs,u.oneCell'=true)
   (h:∀(j:Nat) (u:Value) (d:D),vs[j]?=some u->cs[j]?=some d->RepD St w u d):RepD St w (.agg vs.toArray) (.agg cs)
 |tup (vs:List Value) (cs:List D) (hl:vs.length=cs.length)
   (h:∀(j:Nat) (u:Value) (d:D),vs[j]?=some u->cs[j]?=some d->RepD St w u d):RepD St w (.tuple vs.toArray) (.tup cs)
 |slice (a:Option Addr) (len cap sz:Nat) (xs:List D) (us:List Value)
   (hlen:len=xs.length) (hcap:len<=cap) (hm:cap<=maxLen)
   (hsz:∀x∈xs,x.flat.length=sz)
   (hus:us.length=(zC2 xs).length) (h1:∀u∈us,u.oneCell'=true)
   (hcell:0<xs.length->∃ad,a=some ad/\∀(j:Nat) (u:Value),us[j]?=some u->Cell St w ad j u)
   (h:∀(j:Nat) (u:Value) (d:D),us[j]?=some u->(zC2 xs)[j]?=some d->RepD St w u d):RepD St w (.slice a len cap) (.slice xs)
 |ref (ad:Addr) (us:List Value) (cs:List D) (hl:us.length=cs.length) (h1:∀u∈us,u.oneCell'=true)
   (hcell:∀(j:Nat) (u:Value),us[j]?=some u->Cell St w ad j u)
   (h:∀(j:Nat) (u:Value) (d:D),us[j]?=some u->cs[j]?=some d->RepD St w u d):RepD St w (.pointer (some ad)) (.ref cs)
 |clo (f:FuncId) (vs:List Value) (ds:List D) (hl:vs.length=ds.length)
   (h:∀(j:Nat) (u:Value) (d:D),vs[j]?=some u->ds[j]?=some d->RepD St w u d):RepD St w (.func (.func f) #[] vs.toArray) (.clo f ds)
 |tsl (a:Option Addr) (n:Nat) (xs:List D) (h:RepD St w (.slice a n n) (.slice xs)):RepD St w (.slice a n n) (.tsl xs)
 |ifc (t:TypeId) (v:Value) (d:D) (h:RepD St w v d):RepD St w (.iface t v) (.ifc t d)
structure Keep(St:Stab)(w:World)(St':Stab)(w':World): Prop where
 sub:∀b o,St b o->St' b o
 cell:∀b o u,St b o->w.cell? ⟨b,o,none⟩=some u->w'.cell? ⟨b,o,none⟩=some u
 blk:∀b,(∀o,St b o)->w'.heap[b]?=w.heap[b]?
theorem Keep.refl(St:Stab)(w:World): Keep St w St w:=⟨fun _ _ h=>h,fun _ _ _ _ h=>h,fun _ _=>rfl⟩
theorem Keep.trans{A B C:Stab}{a b c:World}(h:Keep A a B b)(k:Keep B b C c): Keep A a C c :=
 ⟨fun _x _o hx=>k.sub _ _ (h.sub _ _ hx),fun _x _o _u hx hu=>k.cell _ _ _ (h.sub _ _ hx) (h.cell _ _ _ hx hu),fun b hb=>(k.blk b fun o=>h.sub b o (hb o)).trans (h.blk b hb)⟩
theorem zVr{w:World}{a:Addr}{u:Value}(h:w.cell? a=some u): a.spot=none:=by
 unfold World.cell? at h
 split at h
 ·split at h
  ·cases h
  ·rename_i hs;simpa using hs
 ·cases h
theorem zVs{w:World}{ad:Addr}{j:Nat}{u:Value}(h:w.cell? (ad.add j)=some u): ad.add j=⟨ad.block,ad.off+j,none⟩:=by
 have hs:=zVr h
 unfold Addr.add at hs ⊢
 split at hs
 ·rename_i h0;subst h0;cases ad;simp at hs ⊢;exact hs
 ·rename_i h0;simp[h0]
theorem Cell.keep{St St':Stab}{w w':World}{ad:Addr}{j:Nat}{u:Value}(k:Keep St w St' w')(h:Cell St w ad j u): Cell St' w' ad j u:=by
 refine⟨k.sub _ _ h.1,?_⟩
 have e:=zVs h.2
 have h2:=h.2
 rw[e]at h2 ⊢
 exact k.cell _ _ _ h.1 h2
theorem RepD.keep{St St':Stab}{w w':World}{v:Value}{d:D}(k:Keep St w St' w')(h:RepD St w v d): RepD St' w' v d:=by
 induction h with
 |val v=>exact .val v
 |agg vs cs hl h1 _ ih=>exact .agg vs cs hl h1 ih
 |tup vs cs hl _ ih=>exact .tup vs cs hl ih
 |slice a len cap sz xs us hlen hcap hm hsz hus h1 hcell _ ih =>
  refine .slice a len cap sz xs us hlen hcap hm hsz hus h1 (fun h0=>?_) ih
  obtain⟨ad,ha,hc⟩:=hcell h0
  exact⟨ad,ha,fun j u hu=>(hc j u hu).keep k⟩
 |ref ad us cs hl h1 hcell _ ih=>exact .ref ad us cs hl h1 (fun j u hu=>(hcell j u hu).keep k) ih
 |clo f vs ds hl _ ih=>exact .clo f vs ds hl ih
 |tsl a n xs _ ih=>exact .tsl a n xs ih
 |ifc t v d _ ih=>exact .ifc t v d ih
theorem RepD.val_eq{St:Stab}{w:World}{v u:Value}(h:RepD St w v (.val u)): v=u:=by cases h;rfl
def Glob(St:Stab)(w:World): Prop :=
 (∀k,k<9->∀o,St k o)/\(∃(m:Int) (e:TypeId) (t:Nat×Nat),w.heap[0]?=some (.cells #[.int .i64 m] e t))/\
 (∃(e:TypeId) (t:Nat×Nat),w.heap[3]?=some (.cells (Lib.pow10Tab.map fun z=>Value.int .u64 z).toArray e t))/\
 ∃(e:TypeId) (t:Nat×Nat),w.heap[4]?=some (.cells (Lib.asciiSpaceTab.map fun z=>Value.int .u8 z).toArray e t)
theorem Glob.keep{St St':Stab}{w w':World}(h:Glob St w)(k:Keep St w St' w'): Glob St' w':=by
 obtain⟨h1,⟨m,e,t,h2⟩,⟨e3,t3,h3⟩,e4,t4,h4⟩:=h
 exact⟨fun i hi o=>k.sub _ _ (h1 i hi o),⟨m,e,t,(k.blk 0 (h1 0 (by omega))).trans h2⟩,⟨e3,t3,(k.blk 3 (h1 3 (by omega))).trans h3⟩,e4,t4,(k.blk 4 (h1 4 (by omega))).trans h4⟩
inductive SV where
 |d (d:D)
 |nil
 |ptr (id off:Nat)
 |rptr (cs:List D)
 |bptr (id i off:Nat)
 |buf (id n:Nat)
 |bsl (id off n:Nat)
 |clo (f:FuncId) (ids:List Nat)
 |mp (id:Nat)
 |pair (a b:SV)
 |p (φ:Value->Prop)
 |top
 deriving Inhabited
inductive Ob where
 |bx (k:Option Nat) (et:Option TypeId) (cs:List SV)
 |buf (mu:Bool) (e:TypeId) (sz:Nat) (xs:List D)
 |iter (s:ByteArray) (pos:Nat)
 |mapq (q:Bool) (k:Option Nat) (l:List (Value×D))
 |miter (m since:Nat) (seen:List Nat) (st:Nat)
 |gone
 deriving Inhabited
abbrev Ob.box(cs:List SV): Ob:=.bx none none cs
@[match_pattern] abbrev Ob.map (k:Option Nat) (l:List (Value×D)):Ob:=.mapq true k l
structure Gh where
 St:Stab
 blk:Nat->Option Nat
 cap:Nat->Nat
 sz:Nat->Nat
 n:Nat
def RepS(g:Gh)(w:World)(v:Value): SV->Prop
 | .d d=>RepD g.St w v d
 | .nil=>v=.slice none 0 0
 | .ptr id off=>id<g.n/\∃b,g.blk id=some b/\v=.pointer (some ⟨b,off,none⟩)
 | .rptr cs=>∃(ad:Addr) (us:List Value),v=.pointer (some ad)/\us.length=cs.length/\(∀u∈us,u.oneCell'=true)/\
   (∀(j:Nat) (u:Value),us[j]?=some u->Cell g.St w ad j u)/\∀(j:Nat) (u:Value) (d:D),us[j]?=some u->cs[j]?=some d->RepD g.St w u d
 | .bptr id i off=>id<g.n/\∃b,g.blk id=some b/\v=.pointer (some ⟨b,i*g.sz id+off,none⟩)
 | .buf id n=>id<g.n/\v=.slice ((g.blk id).map (⟨·,0,none⟩)) n (g.cap id)
 | .bsl id off n=>id<g.n/\∃a,v=.slice a n (g.cap id-off)/\(0<n->a=(g.blk id).map (⟨·,off*g.sz id,none⟩))
 | .clo f ids=>∃vs:List Value,v=.func (.func f) #[] vs.toArray/\vs.length=ids.length/\
   ∀(j id:Nat) (u:Value),ids[j]?=some id->vs[j]?=some u->id<g.n/\∃b,g.blk id=some b/\u=.pointer (some ⟨b,0,none⟩)
 | .mp id=>id<g.n/\∃b,g.blk id=some b/\v=.map (some b)
 | .pair a b=>∃u1 u2,v=.tuple #[u1,u2]/\RepS g w u1 a/\RepS g w u2 b
 | .p φ=>φ v
 | .top=>True
def ObOk(g:Gh)(w:World)(id:Nat): Ob->Prop
 | .bx k et cs=>∃b e us,g.blk id=some b/\w.heap[b]?=some (.cells us e (0,0))/\us.size=cs.length/\(∀u∈us,u.oneCell'=true)/\
   (∀(j:Nat) (u:Value) (s:SV),us[j]?=some u->cs[j]?=some s->RepS g w u s)/\(∀o,¬g.St b o)/\(∀c,k=some c->c=b)/\∀t,et=some t->t=e
 | .buf mu e sz xs=>g.sz id=sz/\(∀x∈xs,x.flat.length=sz)/\g.cap id<=maxLen/\xs.length<=g.cap id/\
   ((g.blk id=none/\g.cap id=0)\/
    ∃b us,g.blk id=some b/\w.heap[b]?=some (.cells us e (0,0))/\us.size=g.cap id*sz/\
    (∀(j:Nat) (u:Value),j<xs.length*sz->us[j]?=some u->u.oneCell'=true)/\
    (∀(j:Nat) (u:Value) (d:D),us[j]?=some u->(zC2 xs)[j]?=some d->RepD g.St w u d)/\
    (∀o,g.St b o↔(mu=false/\o<xs.length*sz)))
 | .iter s pos=>∃b,g.blk id=some b/\w.heap[b]?=some (.stringIter s pos)/\∀o,¬g.St b o
 | .mapq q k l=>∃b es ck,g.blk id=some b/\w.heap[b]?=some (.map es ck)/\es.size=l.length/\
   (∀(j:Nat) (e:MapEntry) (p:Value×D),es[j]?=some e->l[j]?=some p->e.key=p.1/\RepD g.St w e.val p.2)/\(∀o,¬g.St b o)/\(∀c,k=some c->c=b)/\(q=true->ck=l.length/\∀(j:Nat) (e:MapEntry),es[j]?=some e->e.born=j)
 | .miter m since seen st=>∃b bm,g.blk id=some b/\m<g.n/\g.blk m=some bm/\w.heap[b]?=some (.mapIter (some bm) since seen.toArray st)/\∀o,¬g.St b o
 | .gone=>True
structure Inv(g:Gh)(w:World)(η:List Ob): Prop where
 n:g.n=η.length
 lt:∀id b,g.blk id=some b->b<w.heap.size
 dead:∀id,g.n<=id->g.blk id=none
 inj:∀i j b,g.blk i=some b->g.blk j=some b->i=j
 ob:∀id o,η[id]?=some o->ObOk g w id o
 st:∀b o,g.St b o->b<w.heap.size
 gl:Glob g.St w
structure Grow(g:Gh)(w:World)(g':Gh)(w':World): Prop where
 blk:g'.blk=g.blk
 cap:g'.cap=g.cap
 sz:g'.sz=g.sz
 n:g'.n=g.n
 os:w'.os=w.os
 tape:w'.tape=w.tape
 output:w'.output=w.output
 size:w.heap.size<=w'.heap.size
 heap:∀k,k<w.heap.size->w'.heap[k]?=w.heap[k]?
 sub:∀b o,g.St b o->g'.St b o
 new:∀b o,g'.St b o->g.St b o\/w.heap.size<=b
 lt:∀b o,g'.St b o->b<w'.heap.size
theorem Grow.refl{g:Gh}{w:World}(h:∀b o,g.St b o->b<w.heap.size): Grow g w g w:=⟨rfl,rfl,rfl,rfl,rfl,rfl,rfl,qAN _,fun _ _=>rfl,fun _ _ h=>h,fun _ _ h=>.inl h,h⟩
theorem Grow.keep{g g':Gh}{w w':World}(h:Grow g w g' w')(hst:∀b o,g.St b o->b<w.heap.size): Keep g.St w g'.St w' :=
 ⟨h.sub,fun b o _u hb hu=>(World.cell?_of_block (a:=⟨b,o,none⟩) (h.heap b (hst b o hb))).trans hu,fun b hb=>h.heap b (hst b 0 (hb 0))⟩
theorem RepS.change{g g':Gh}{w w':World}{v:Value}{s:SV}(k:Keep g.St w g'.St w')(hb:g'.blk=g.blk)(hc:g'.cap=g.cap)(hs:g'.sz=g.sz)(hn:g'.n=g.n)(r:RepS g w v s): RepS g' w' v s:=by
 induction s generalizing v with
 |d d=>exact RepD.keep k r
 |nil=>exact r
 |ptr id off=>unfold RepS at *;rw[hn,hb];exact r
 |rptr cs =>
  obtain⟨ad,us,h1,h2,h3,h4,h5⟩:=r
  exact⟨ad,us,h1,h2,h3,fun j u hu=>(h4 j u hu).keep k,fun j u d hu hd=>(h5 j u d hu hd).keep k⟩
 |bptr id i off=>unfold RepS at *;rw[hn,hb,hs];exact r
 |buf id n=>unfold RepS at *;rw[hn,hb,hc];exact r
 |bsl id off n=>unfold RepS at *;rw[hn,hb,hc,hs];exact r
 |clo f ids=>unfold RepS at *;rw[hn,hb];exact r
 |mp id=>unfold RepS at *;rw[hn,hb];exact r
 |pair a b ha hb'=>obtain⟨u1,u2,h1,h2,h3⟩:=r;exact⟨u1,u2,h1,ha h2,hb' h3⟩
 |p φ=>exact r
 |top=>trivial
theorem RepS.grow{g g':Gh}{w w':World}{v:Value}{s:SV}(hst:∀b o,g.St b o->b<w.heap.size)(h:Grow g w g' w')(r:RepS g w v s): RepS g' w' v s :=
 r.change (h.keep hst) h.blk h.cap h.sz h.n
theorem Inv.grow{g g':Gh}{w w':World}{η:List Ob}(i:Inv g w η)(h:Grow g w g' w'): Inv g' w' η where
 n:=h.n.trans i.n
 lt id b hb:=by rw[h.blk]at hb;exact qAc (i.lt id b hb) h.size
 dead id hid:=by rw[h.blk];exact i.dead id (by rw[<-h.n];exact hid)
 inj a b c ha hb:=by rw[h.blk]at ha hb;exact i.inj a b c ha hb
 st:=h.lt
 gl:=i.gl.keep (h.keep i.st)
 ob id o ho:=by
  have:=i.ob id o ho
  have kp:=h.keep i.st
  cases o with
  |bx k et cs =>
   obtain⟨b,e,us,h1,h2,h3,h4,h5,h6,h8⟩:=this
   refine⟨b,e,us,by rw[h.blk];exact h1,(h.heap b (i.lt id b h1)).trans h2,h3,h4,fun j u s hu hs=>(h5 j u s hu hs).grow i.st h,fun o ho=>?_,h8⟩
   rcases h.new b o ho with h7|h7
   ·exact h6 o h7
   ·exact absurd (i.lt id b h1) (by omega)
  |buf mu e sz xs =>
   obtain⟨h1,h2,h3,h4,h5⟩:=this
   refine⟨by rw[h.sz];exact h1,h2,by rw[h.cap];exact h3,by rw[h.cap];exact h4,?_⟩
   rcases h5 with h5|⟨b,us,h5,h6,h7,h8,h9,h10⟩
   ·exact .inl (by rw[h.blk,h.cap];exact h5)
   ·refine .inr ⟨b,us,by rw[h.blk];exact h5,(h.heap b (i.lt id b h5)).trans h6,by rw[h.cap];exact h7,h8,fun j u d hu hd=>(h9 j u d hu hd).keep kp,fun o=>⟨fun ho=>?_,fun ho=>h.sub _ _ ((h10 o).2 ho)⟩⟩
    rcases h.new b o ho with h11|h11
    ·exact(h10 o).1 h11
    ·exact absurd (i.lt id b h5) (by omega)
  |iter s pos =>
   obtain⟨b,h1,h2,h3⟩:=this
   refine⟨b,by rw[h.blk];exact h1,(h.heap b (i.lt id b h1)).trans h2,fun o ho=>?_⟩
   rcases h.new b o ho with h7|h7
   ·exact h3 o h7
   ·exact absurd (i.lt id b h1) (by omega)
  |mapq q k l =>
   obtain⟨b,es,ck,h1,h2,h3,h4,h5,h6⟩:=this
   refine⟨b,es,ck,by rw[h.blk];exact h1,(h.heap b (i.lt id b h1)).trans h2,h3,fun j e p he hp=>⟨(h4 j e p he hp).1,(h4 j e p he hp).2.keep kp⟩,fun o ho=>?_,h6⟩
   rcases h.new b o ho with h7|h7
   ·exact h5 o h7
   ·exact absurd (i.lt id b h1) (by omega)
  |miter m since seen st =>
   obtain⟨b,bm,h1,h2,h3,h4,h5⟩:=this
   refine⟨b,bm,by rw[h.blk];exact h1,by rw[h.n];exact h2,by rw[h.blk];exact h3,(h.heap b (i.lt id b h1)).trans h4,fun o ho=>?_⟩
   rcases h.new b o ho with h7|h7
   ·exact h5 o h7
   ·exact absurd (i.lt id b h1) (by omega)
  |gone=>trivial
end Go.Sx
namespace Go.Sx
structure Ctx where
 P:Program
 N:Nat
 w0:World
 St0:Stab
 X:Nat->Prop
 ro:Nat
abbrev Sl:=List (Nat×SV)
def get: Sl->Nat->SV
 |[],_=>.top
 |(k,s)::r,t=>match Nat.beq k t with
  |true=>s
  |false=>get r t
def put(σ:Sl): Option Nat->SV->Sl
 |some d,s=>(d,s)::σ
 |none,_=>σ
def cst: Value->SV
 | .slice none 0 0=>.nil
 |v=>.d (.val v)
def oval(σ:Sl): Operand->SV
 | .tmp t=>get σ t
 | .const v=>cst v
 | .func f=>.clo f []
 | .global _=>.top
theorem zBl(k:Nat)(s:SV)(r:Sl)(t:Nat): get ((k,s)::r) t=if k=t then s else get r t:=by
 show (match Nat.beq k t with|true=>s|false=>get r t)=_
 by_cases h:k=t
 ·subst h;simp
 ·rw[if_neg h]
  cases h':Nat.beq k t with
  |false=>rfl
  |true=>exact absurd (qAX h') h
structure AbsG(C:Ctx)(g:Gh)(σ:Sl)(η:List Ob)(a:Act)(w:World): Prop where
 defers:a.defers=[]
 size:a.tmps.size=C.N
 inv:Inv g w η
 os:w.os=C.w0.os
 tape:w.tape=C.w0.tape
 output:w.output=C.w0.output
 wsize:C.w0.heap.size<=w.heap.size
 heap:∀k,k<C.w0.heap.size->¬C.X k->w.heap[k]?=C.w0.heap[k]?
 keep:Keep C.St0 C.w0 g.St w
 new:∀b o,g.St b o->C.St0 b o\/C.w0.heap.size<=b\/C.X b
 own:∀id b,g.blk id=some b->C.ro<=id->C.w0.heap.size<=b\/C.X b
 rep:∀t,RepS g w (a.tmps.getD t undef) (get σ t)
def Abs(C:Ctx)(σ:Sl)(η:List Ob)(a:Act)(w:World): Prop:=∃g,AbsG C g σ η a w
theorem AbsG.grow{C:Ctx}{g g':Gh}{σ:Sl}{η:List Ob}{a:Act}{w w':World}(h:AbsG C g σ η a w)(k:Grow g w g' w'): AbsG C g' σ η a w' where
 defers:=h.defers
 size:=h.size
 inv:=h.inv.grow k
 os:=k.os.trans h.os
 tape:=k.tape.trans h.tape
 output:=k.output.trans h.output
 wsize:=qAx h.wsize k.size
 heap i hi hx:=(k.heap i (qAc hi h.wsize)).trans (h.heap i hi hx)
 keep:=h.keep.trans (k.keep h.inv.st)
 new b o hb:=by
  rcases k.new b o hb with h1|h1
  ·exact h.new b o h1
  ·exact .inr (.inl (qAx h.wsize h1))
 own id b hb hr:=by rw[k.blk]at hb;exact h.own id b hb hr
 rep t:=(h.rep t).grow h.inv.st k
def zFA(N:Nat): Option Nat->Prop
 |some d=>Nat.blt d N=true
 |none=>True
theorem AbsG.put{C:Ctx}{g:Gh}{σ:Sl}{η:List Ob}{a:Act}{w:World}(h:AbsG C g σ η a w){d:Option Nat}{v:Value}{s:SV}(hd:zFA C.N d)(hr:RepS g w v s): AbsG C g (put σ d s) η (a.put d v) w:=by
 cases d with
 |none=>exact h
 |some d =>
  have hlt:d<C.N:=by simpa[zFA,Nat.blt_eq]using hd
  refine⟨h.defers,by simpa[Act.put]using h.size,h.inv,h.os,h.tape,h.output,h.wsize,h.heap,h.keep,h.new,h.own,fun t=>?_⟩
  have hs:=h.size
  show RepS g w ((a.tmps.setIfInBounds d v).getD t undef) (get ((d,s)::σ) t)
  rw[zBl]
  by_cases e:d=t
  ·subst e;rw[if_pos rfl];simpa[hs,hlt]using hr
  ·rw[if_neg e]
   have:=h.rep t
   simpa[Array.getElem?_setIfInBounds_ne e]using this
theorem RepS.cst(g:Gh)(w:World)(v:Value): RepS g w v (cst v):=by
 unfold Sx.cst
 split
 ·rfl
 ·exact .val _
theorem AbsG.eval{C:Ctx}{g:Gh}{σ:Sl}{η:List Ob}{a:Act}{w:World}(h:AbsG C g σ η a w)(x:Operand): RepS g w (a.eval x) (oval σ x):=by
 cases x with
 |tmp t=>exact h.rep t
 |const v=>exact RepS.cst g w v
 |func f=>exact⟨[],rfl,rfl,fun j id u hj=>by simp at hj⟩
 |global g=>trivial
def Ylds(P:Program)(η:List Ob)(σ:Sl)(o:Oper)(s:SV): Prop :=
 ∀(g:Gh) (w:World) (a:Act),Inv g w η->(∀x∈o.op.operands,RepS g w (a.eval x) (oval σ x))->
  (∃v g' w',(execOp a.eval o).run P w=.ok (.value v) w'/\Grow g w g' w'/\RepS g' w' v s)\/
  (∃f args,(execOp a.eval o).run P w=.ok (.enter f args) w/\Calls P f args w (fun e w'=>∃v g',e=.returned v/\Grow g w g' w'/\RepS g' w' v s))
theorem Ylds.same{P:Program}{η:List Ob}{σ:Sl}{o:Oper}{s:SV}
  (h:∀(g:Gh) (w:World) (a:Act),Inv g w η->(∀x∈o.op.operands,RepS g w (a.eval x) (oval σ x))->∃v,(execOp a.eval o).run P w=.ok (.value v) w/\RepS g w v s):Ylds P η σ o s :=
 fun g w a hi hx=>let ⟨v,h1,h2⟩:=h g w a hi hx;.inl ⟨v,g,w,h1,Grow.refl hi.st,h2⟩
def Wants(ops:Array Oper)(σ:Sl)(gd:Option (Nat×Bool))(b:Bool): Prop :=
 match gd with
 |none=>b=true
 |some (j,want)=>∃t,(ops[j]?).bind (·.dst)=some t/\get σ t=.d (.val (.bool (if b then want else !want)))
theorem Wants.wanted{ops:Array Oper}{σ:Sl}{o:Oper}{b:Bool}{tmps:Array Value}{g:Gh}{w:World}(h:Wants ops σ o.guard b)(hr:∀t,(∀j q,o.guard=some (j,q)->(ops[j]?).bind (·.dst)=some t->RepS g w (tmps.getD t undef) (get σ t))):
  Region.wanted o (yielded ops tmps)=b:=by
 unfold Wants at h
 unfold Region.wanted
 cases hg:o.guard with
 |none=>rw[hg]at h;exact h.symm
 |some q =>
  obtain⟨j,want⟩:=q
  rw[hg]at h
  obtain⟨t,ht,hv⟩:=h
  have:=hr t j want hg ht
  rw[hv]at this
  have hv2:=RepD.val_eq this
  have hlt:t<tmps.size:=by
   rcases qAF t tmps.size with h1|h1
   ·exact h1
   ·rw[qAQ,Array.getElem?_eq_none h1]at hv2;cases hv2
  have:tmps[t]?=some (.bool (if b then want else !want)):=by
   rw[qAQ,qAP hlt]at hv2
   rw[qAP hlt]
   simpa using hv2
  simp only[yielded,ht,qBQ,this]
  cases b <;> cases want <;> rfl
def Skips(ops:Array Oper)(σ:Sl)(gd:Option (Nat×Bool)): Prop :=
 Wants ops σ gd false\/∃j q t,gd=some (j,q)/\(ops[j]?).bind (·.dst)=some t/\get σ t=.d (.val undef)
theorem Skips.wanted{ops:Array Oper}{σ:Sl}{o:Oper}{tmps:Array Value}{g:Gh}{w:World}(h:Skips ops σ o.guard)(hr:∀t,(∀j q,o.guard=some (j,q)->(ops[j]?).bind (·.dst)=some t->RepS g w (tmps.getD t undef) (get σ t))):
  Region.wanted o (yielded ops tmps)=false:=by
 rcases h with h|⟨j,q,t,hg,ht,hv⟩
 ·exact h.wanted hr
 ·have h2:=hr t j q hg ht
  rw[hv]at h2
  have h2:=RepD.val_eq h2
  unfold Region.wanted
  have:yielded ops tmps j=none:=by
   simp only[yielded,ht,qBQ]
   rcases qAF t tmps.size with hl|hl
   ·rw[qAQ,qAP hl]at h2
    rw[qAP hl]
    simp only[qBE]at h2
    rw[h2];rfl
   ·rw[Array.getElem?_eq_none hl]
  simp only[hg,this];rfl
def zBk(C:Ctx)(ops:Array Oper)(l:List Oper)(K:Sl->List Ob->Prop)(σ:Sl)(η:List Ob): Prop :=
 ∀(Q:Exit->Act->World->Prop),(∀σ' η' a w,K σ' η'->Abs C σ' η' a w->Q .normal a w)->∀a w,Abs C σ η a w->wpList C.P ops Q l a w
theorem Ylds.wp{C:Ctx}{η:List Ob}{σ:Sl}{o:Oper}{s:SV}(hy:Ylds C.P η σ o s)(hd:zFA C.N o.dst){Q:Exit->Act->World->Prop}{K:Act->World->Prop}
  (hK:∀a w,Abs C (put σ o.dst s) η a w->K a w) {a:Act} {w:World} {g:Gh} (h:AbsG C g σ η a w):o.wp C.P a w K Q:=by
 unfold Oper.wp
 rcases hy g w a h.inv (fun x _=>h.eval x)with⟨v,g',w',hr,hg,hs⟩|⟨f,args,hr,hc⟩
 ·rw[hr]
  exact hK _ _ ⟨g',(h.grow hg).put hd hs⟩
 ·rw[hr]
  rw[Oper.upon_enter]
  refine hc.mono fun e w' ⟨v,g',he,hg,hs⟩=>?_
  subst he
  exact hK _ _ ⟨g',(h.grow hg).put hd hs⟩
theorem zS4{C:Ctx}{ops:Array Oper}{o:Oper}{rest:List Oper}{K:Sl->List Ob->Prop}{σ:Sl}{η:List Ob}
  (hw:Wants ops σ o.guard false) (hd:zFA C.N o.dst) (h:zBk C ops rest K (put σ o.dst .top) η):zBk C ops (o::rest) K σ η:=by
 intro Q hQ a w ⟨g,ha⟩
 refine wpList_step fun K' hK'=>?_
 rw[if_neg (by rw[hw.wanted fun t _ _ _ _=>ha.rep t];simp)]
 exact hK' _ _ (h Q hQ _ w ⟨g,ha.put hd trivial⟩)
theorem AbsG.get_eq{C:Ctx}{g:Gh}{σ σ':Sl}{η:List Ob}{a:Act}{w:World}(h:AbsG C g σ η a w)(e:∀t,get σ' t=get σ t\/get σ' t=.top): AbsG C g σ' η a w :=
 ⟨h.defers,h.size,h.inv,h.os,h.tape,h.output,h.wsize,h.heap,h.keep,h.new,h.own,fun t=>by
  rcases e t with e|e
  ·rw[e];exact h.rep t
  ·rw[e];trivial⟩
def Le(σ' σ:Sl): Prop:=∀t,get σ' t=get σ t\/get σ' t=.top
theorem Le.refl(σ:Sl): Le σ σ:=fun _=>.inl rfl
theorem Abs.le{C:Ctx}{σ σ':Sl}{η:List Ob}{a:Act}{w:World}(h:Abs C σ η a w)(e:Le σ' σ): Abs C σ' η a w:=let ⟨g,h⟩:=h;⟨g,h.get_eq e⟩
def zEy(ops:Array Oper): Nat->Nat->Nat->Bool
 |0,_,_=>false
 |f+1,j,i=>match ops[j]? with
  |some o=>o.after.any fun e=>Region.binds .any e&&(Nat.beq e.on i||(Nat.blt i e.on&&zEy ops f e.on i))
  |none=>false
def zIx(ops:Array Oper)(r:Nat): Bool :=
 Nat.blt r ops.size&&((List.range (ops.size-1-r)).all fun i=>zEy ops ops.size (ops.size-1-r) i)&&(List.range r).all fun i=>zEy ops ops.size (ops.size-r+i) (ops.size-1-r)
def EStep(C:Ctx)(o:Oper)(J:Sl->List Ob->Prop)(σ:Sl)(η:List Ob): Prop :=
 ∀(Q:Exit->Act->World->Prop) a w,Abs C σ η a w->o.wp C.P a w (fun a w=>∃σ' η',J σ' η'/\Abs C σ' η' a w) Q
def zBZ(C:Ctx)(ops:Array Oper): List Oper->(Sl->List Ob->Prop)->Sl->List Ob->Prop
 |[],K,σ,η=>∃σ',K σ' η/\Le σ' σ
 |o::rest,K,σ,η=>(∃s,((Wants ops σ o.guard true/\Ylds C.P η σ o s)\/(Skips ops σ o.guard/\(s=.top\/s=.d (.val undef))))/\zFA C.N o.dst/\zBZ C ops rest K (put σ o.dst s) η)\/
  (zIx ops rest.length=true/\Wants ops σ o.guard true/\EStep C o (zBZ C ops rest K) σ η)
theorem zEZ{σ σ':Sl}(e:∀t,get σ' t=get σ t)(x:Operand): oval σ' x=oval σ x:=by
 cases x <;> simp[oval,e]
theorem zUA{σ σ':Sl}(e:∀t,get σ' t=get σ t)(d:Option Nat)(s:SV)(t:Nat): get (put σ' d s) t=get (put σ d s) t:=by
 cases d with
 |none=>exact e t
 |some d=>simp[put,zBl,e]
theorem Wants.congr{ops:Array Oper}{σ σ':Sl}{gd:Option (Nat×Bool)}{b:Bool}(e:∀t,get σ' t=get σ t)(h:Wants ops σ gd b): Wants ops σ' gd b:=by
 unfold Wants at *
 split at h
 ·exact h
 ·obtain⟨t,h1,h2⟩:=h
  exact⟨t,h1,(e t).trans h2⟩
theorem Skips.congr{ops:Array Oper}{σ σ':Sl}{gd:Option (Nat×Bool)}(e:∀t,get σ' t=get σ t)(h:Skips ops σ gd): Skips ops σ' gd:=by
 rcases h with h|⟨j,q,t,h1,h2,h3⟩
 ·exact .inl (h.congr e)
 ·exact .inr ⟨j,q,t,h1,h2,(e t).trans h3⟩
theorem Ylds.congr{P:Program}{η:List Ob}{σ σ':Sl}{o:Oper}{s:SV}(e:∀x∈o.op.operands,oval σ' x=oval σ x)(h:Ylds P η σ o s): Ylds P η σ' o s :=
 fun g w a hi hx=>h g w a hi (fun x hm=>by rw[<-e x hm];exact hx x hm)
theorem zLQ{C:Ctx}{η:List Ob}{ops:Array Oper}{K:Sl->List Ob->Prop}: ∀(l:List Oper) (σ σ':Sl),(∀t,get σ' t=get σ t)->zBZ C ops l K σ η->zBZ C ops l K σ' η
 |[],_,_,e,⟨τ,h1,h2⟩=>⟨τ,h1,fun t=>by rw[e t];exact h2 t⟩
 |o::l,σ,σ',e,.inl ⟨s,h1,h2,h3⟩=>by
  refine .inl ⟨s,?_,h2,zLQ l _ _ (zUA e o.dst s) h3⟩
  rcases h1 with⟨h1,h4⟩|⟨h1,h4⟩
  ·exact .inl ⟨h1.congr e,h4.congr fun x _=>zEZ e x⟩
  ·exact .inr ⟨h1.congr e,h4⟩
 |o::l,σ,σ',e,.inr ⟨h1,h2,h3⟩=>.inr ⟨h1,h2.congr e,fun Q a w hab=>h3 Q a w (hab.le fun t=>.inl (e t).symm)⟩
def alex(C:Ctx)(dr:Bool)(ops:Array Oper)(l:List Oper)(K:Sl->List Ob->Prop)(σ:Sl)(η:List Ob): Prop :=
 match dr with
 |true=>zBZ C ops l K σ η
 |false=>zBk C ops l K σ η
section
variable {C:Ctx}{dr:Bool}{ops:Array Oper}{o:Oper}{rest:List Oper}{K:Sl->List Ob->Prop}{σ:Sl}{η:List Ob}
theorem zAD(h:K σ η): alex C dr ops [] K σ η:=by
 cases dr with
 |true=>exact⟨σ,h,Le.refl σ⟩
 |false=>exact fun Q hQ a w hab=>hQ σ η a w h hab
theorem zMP(hw:Wants ops σ o.guard false)(hd:zFA C.N o.dst)(h:alex C dr ops rest K (put σ o.dst .top) η): alex C dr ops (o::rest) K σ η:=by
 cases dr with
 |true=>exact .inl ⟨.top,.inr ⟨.inl hw,.inl rfl⟩,hd,h⟩
 |false=>exact zS4 hw hd h
theorem zRL{σ:Sl}{t:Nat}{s:SV}(h:get σ t=s)(u:Nat): get ((t,s)::σ) u=get σ u:=by
 rw[zBl];split
 ·rename_i e;subst e;exact h.symm
 ·rfl
theorem zJX{l:List Oper}(t:Nat){b:Bool}(hg:get σ t=.d (.val (.bool b)))(h1:b=true->alex C dr ops l K ((t,.d (.val (.bool true)))::σ) η)(h2:b=false->alex C dr ops l K ((t,.d (.val (.bool false)))::σ) η): alex C dr ops l K σ η:=by
 have key:∀b,get σ t=.d (.val (.bool b))->alex C dr ops l K ((t,.d (.val (.bool b)))::σ) η->alex C dr ops l K σ η:=by
  intro b hb h
  cases dr with
  |true=>exact zLQ l _ _ (fun u=>(zRL hb u).symm) h
  |false=>exact fun Q hQ a w hab=>h Q hQ a w (hab.le fun u=>.inl (zRL hb u))
 cases b with
 |true=>exact key true hg (h1 rfl)
 |false=>exact key false hg (h2 rfl)
end
def awp(C:Ctx)(c:Code)(Q:Exit->Sl->List Ob->Prop)(σ:Sl)(η:List Ob): Prop :=
 ∀(R:Exit->Act->World->Prop),(∀e σ' η' a w,Q e σ' η'->Abs C σ' η' a w->R e a w)->∀a w,Abs C σ η a w->c.wp C.P R a w
def zBb(K:Sl->List Ob->Prop)(Q:Exit->Sl->List Ob->Prop): Exit->Sl->List Ob->Prop
 | .normal,σ,η=>K σ η
 |e,σ,η=>Q e σ η
def zBD(id:Nat)(Q:Exit->Sl->List Ob->Prop): Exit->Sl->List Ob->Prop
 | .exit id',σ,η=>if id'=id then Q .normal σ η else Q (.exit id') σ η
 |e,σ,η=>Q e σ η
section
variable {C:Ctx}{Q:Exit->Sl->List Ob->Prop}{σ:Sl}{η:List Ob}
theorem zAM(h:Q .normal σ η): awp C .skip Q σ η:=fun _R hR _a _w hab=>wp_skip (hR _ _ _ _ _ h hab)
theorem zVx{l:Nat}(h:Q .normal σ η): awp C (.label l) Q σ η:=fun _R hR _a _w hab=>wp_label (hR _ _ _ _ _ h hab)
theorem zAz{id:Nat}(h:Q (.exit id) σ η): awp C (.exit id) Q σ η:=fun _R hR _a _w hab=>wp_exit (hR _ _ _ _ _ h hab)
theorem zYA{id:Nat}(h:Q (.goto id) σ η): awp C (.goto id) Q σ η:=fun _R hR _a _w hab=>wp_goto (hR _ _ _ _ _ h hab)
theorem zAN(h:Q .ret σ η): awp C .ret Q σ η:=fun _R hR _a _w hab=>wp_ret (hR _ _ _ _ _ h hab)
theorem zAE{x y:Code}(h:awp C x (zBb (awp C y Q) Q) σ η): awp C (.seq x y) Q σ η:=by
 intro R hR a w hab
 refine wp_seq (h _ (fun e σ' η' a' w' hq hab'=>?_) a w hab)
 cases e <;> first|exact hq R hR a' w' hab'|exact hR _ _ _ _ _ hq hab'
theorem zAH{id:Nat}{c:Code}(h:awp C c (zBD id Q) σ η): awp C (.block id c) Q σ η:=by
 intro R hR a w hab
 refine wp_block (h _ (fun e σ' η' a' w' hq hab'=>?_) a w hab)
 cases e with
 |exit id' =>
  simp only[zBD]at hq
  simp only[Exit.inBlock]
  split
  ·rename_i h0;rw[if_pos h0]at hq;exact hR _ _ _ _ _ hq hab'
  ·rename_i h0;rw[if_neg h0]at hq;exact hR _ _ _ _ _ hq hab'
 |_=>exact hR _ _ _ _ _ hq hab'
theorem zCd{x:Operand}{c d:Code}{b:Bool}(hx:oval σ x=.d (.val (.bool b)))(h1:b=true->awp C c Q σ η)(h2:b=false->awp C d Q σ η): awp C (.cond x c d) Q σ η:=by
 intro R hR a w hab
 obtain⟨g,hg⟩:=hab
 have:=hg.eval x
 rw[hx]at this
 have e:=RepD.val_eq this
 exact wp_cond_split e (fun hb=>h1 hb R hR a w ⟨g,hg⟩) (fun hb=>h2 hb R hR a w ⟨g,hg⟩)
theorem zAA{id:Nat}{l:List Oper}(h:alex C false l.toArray l (Q .normal) σ η): awp C (.region id l.toArray false) Q σ η :=
 fun R hR a w hab=>wp_region_lit (h R (fun _σ' _η' _a' _w' hq hab'=>hR _ _ _ _ _ hq hab') a w hab)
theorem zcB{c:Code}{σ':Sl}(e:Le σ' σ)(h:awp C c Q σ' η): awp C c Q σ η:=fun R hR a w hab=>h R hR a w (hab.le e)
end
theorem zVw{C:Ctx}{c:Code}{Q:Exit->Sl->List Ob->Prop}{α:Type}(I:α->Prop)(s:α->Sl)(h:α->List Ob)(μ:α->Nat)(x0:α)
  (h0:I x0)
  (round:∀x,I x->awp C c (zBb (fun σ' η'=>∃y,I y/\μ y<μ x/\s y=σ'/\h y=η') Q) (s x) (h x)):awp C (.loop c) Q (s x0) (h x0):=by
 intro R hR a w hab
 have key:∀(n:Nat) (x:α),μ x=n->I x->∀a w,Abs C (s x) (h x) a w->∀b k cs,∃e a' w',R e a' w'/\Arrives C.P (lone (b.at a (.code c :: .inLoop c::k)) cs w) b k cs e a' w':=by
  intro n
  induction n using Nat.strongRecOn with
  |_ n ih =>
   intro x hn hI a w hab b k cs
   have hr:=round x hI (Exit.then (fun a' w'=>∃y,I y/\μ y<μ x/\Abs C (s y) (h y) a' w') R) (fun e σ' η' a' w' hq hab'=>by
    cases e with
    |normal=>obtain⟨y,h1,h2,h3,h4⟩:=hq;subst h3;subst h4;exact⟨y,h1,h2,hab'⟩
    |_=>exact hR _ _ _ _ _ hq hab') a w hab
   obtain⟨e,a₁,w₁,hq,harr⟩:=hr b (.inLoop c::k) cs
   cases e with
   |normal =>
    obtain⟨y,h1,h2,h3⟩:=hq
    obtain⟨e₂,a₂,w₂,hq₂,harr₂⟩:=ih (μ y) (hn▸h2) y rfl h1 a₁ w₁ h3 b k cs
    exact⟨e₂,a₂,w₂,hq₂,.of_steps (Steps.trans harr (.one step_inLoop)) harr₂⟩
   |exit id=>exact⟨_,a₁,w₁,hq,.pass (x:=.inLoop c) rfl (fun _ _=>.inl sI) harr⟩
   |goto l=>exact⟨_,a₁,w₁,hq,.pass (x:=.inLoop c) rfl (fun _ _=>.inl sI) harr⟩
   |ret=>exact⟨_,a₁,w₁,hq,.pass (x:=.inLoop c) rfl (fun _ _=>.inl sI) harr⟩
   |panic ch=>exact⟨_,a₁,w₁,hq,.pass (x:=.inLoop c) rfl (fun _ _=>.inl sI) harr⟩
   |outgrown=>exact⟨_,a₁,w₁,hq,.pass (x:=.inLoop c) rfl (fun _ _=>.inl sI) harr⟩
 intro b k cs
 obtain⟨e,a',w',hq,harr⟩:=key _ x0 rfl h0 a w hab b k cs
 exact⟨e,a',w',hq,.of_steps (.one step_loop) harr⟩
def zBd(l:Nat)(J:Sl->List Ob->Prop)(Q:Exit->Sl->List Ob->Prop): Exit->Sl->List Ob->Prop
 | .goto l',σ,η=>l'=l/\J σ η
 |e,σ,η=>Q e σ η
theorem zSz{C:Ctx}{c rest:Code}{Q:Exit->Sl->List Ob->Prop}{σ:Sl}{η:List Ob}{α:Type}(l:Nat)(hf:findLabel c l=some rest)(I:α->Prop)(s:α->Sl)(h:α->List Ob)(μ:α->Nat)
  (first:awp C c (zBd l (fun σ' η'=>∃y,I y/\s y=σ'/\h y=η') Q) σ η)
  (pass:∀x,I x->awp C rest (zBd l (fun σ' η'=>∃y,I y/\μ y<μ x/\s y=σ'/\h y=η') Q) (s x) (h x)):awp C (.scope c) Q σ η:=by
 intro R hR a w hab
 have hg:∀k,gotoIn l (.inScope c::k)=some (.code rest :: .inScope c::k):=fun k=>by simp[gotoIn,hf]
 have key:∀(n:Nat) (x:α),μ x=n->I x->∀a w,Abs C (s x) (h x) a w->∀b k cs,∃e a' w',R e a' w'/\Arrives C.P (lone (b.at a (.code rest :: .inScope c::k)) cs w) b k cs e a' w':=by
  intro n
  induction n using Nat.strongRecOn with
  |_ n ih =>
   intro x hn hI a w hab b k cs
   have hr:=pass x hI (fun e a' w'=>match e with | .goto l'=>l'=l/\∃y,I y/\μ y<μ x/\Abs C (s y) (h y) a' w'|e=>R e a' w') (fun e σ' η' a' w' hq hab'=>by
    cases e with
    |goto l'=>obtain⟨e1,y,h1,h2,h3,h4⟩:=hq;subst h3;subst h4;exact⟨e1,y,h1,h2,hab'⟩
    |_=>exact hR _ _ _ _ _ hq hab') a w hab
   obtain⟨e,a₁,w₁,hq,harr⟩:=hr b (.inScope c::k) cs
   cases e with
   |normal=>exact⟨.normal,a₁,w₁,hq,Steps.trans harr (.one step_inScope)⟩
   |exit id=>exact⟨.exit id,a₁,w₁,hq,fun k' hk=>harr k' (by simp[exitTo,hk])⟩
   |goto l' =>
    obtain⟨rfl,y,h1,h2,h3⟩:=hq
    obtain⟨e₂,a₂,w₂,hq₂,harr₂⟩:=ih (μ y) (hn▸h2) y rfl h1 a₁ w₁ h3 b k cs
    exact⟨e₂,a₂,w₂,hq₂,.of_steps (harr _ (hg k)) harr₂⟩
   |ret=>exact⟨_,a₁,w₁,hq,harr⟩
   |panic ch=>exact⟨_,a₁,w₁,hq,harr⟩
   |outgrown=>exact⟨_,a₁,w₁,hq,harr⟩
 have hf':=first (fun e a' w'=>match e with | .goto l'=>l'=l/\∃y,I y/\Abs C (s y) (h y) a' w'|e=>R e a' w') (fun e σ' η' a' w' hq hab'=>by
  cases e with
  |goto l'=>obtain⟨e1,y,h1,h3,h4⟩:=hq;subst h3;subst h4;exact⟨e1,y,h1,hab'⟩
  |_=>exact hR _ _ _ _ _ hq hab') a w hab
 intro b k cs
 obtain⟨e,a₁,w₁,hq,harr⟩:=hf' b (.inScope c::k) cs
 cases e with
 |normal=>exact⟨.normal,a₁,w₁,hq,.head step_scope (Steps.trans harr (.one step_inScope))⟩
 |exit id=>exact⟨.exit id,a₁,w₁,hq,fun k' hk=>.head step_scope (harr k' (by simp[exitTo,hk]))⟩
 |goto l' =>
  obtain⟨rfl,y,h1,h2⟩:=hq
  obtain⟨e₂,a₂,w₂,hq₂,harr₂⟩:=key _ y rfl h1 a₁ w₁ h2 b k cs
  exact⟨e₂,a₂,w₂,hq₂,.of_steps (.head step_scope (harr _ (hg k))) harr₂⟩
 |ret=>exact⟨_,a₁,w₁,hq,.of_steps (.one step_scope) harr⟩
 |panic ch=>exact⟨_,a₁,w₁,hq,.of_steps (.one step_scope) harr⟩
 |outgrown=>exact⟨_,a₁,w₁,hq,.of_steps (.one step_scope) harr⟩
def zCB(P:Program)(t:TypeId): Option TypeId :=
 match P.underlying t with
 |some (.slice e)=>some e
 |_=>none
def zBU(P:Program)(t:TypeId): Option Nat :=
 match zCB P t with
 |some e=>(P.info? e).map (·.size)
 |none=>none
def zA7(P:Program)(t:TypeId)(f:Nat): Option Nat :=
 match P.underlying t with
 |some (.struct fs)=>match fs[f]? with
  |some fl=>match P.info? fl.type with
   |some i=>if i.size=0 then none else some fl.offset
   |none=>none
  |none=>none
 |_=>none
def zBh(P:Program)(t:TypeId): Option (Bool×Nat) :=
 match P.underlying t,P.info? t with
 |some d,some i=>some ((match d with | .struct _ | .array _ _=>true|_=>false),i.size)
 |_,_=>none
theorem zCw{P:Program}{t e:TypeId}(h:zCB P t=some e): P.underlying t=some (.slice e):=by
 unfold zCB at h
 split at h
 ·rename_i hu;injection h with h;subst h;exact hu
 ·cases h
theorem zB4{P:Program}{t n:Nat}(h:zBU P t=some n): ∃e i,P.underlying t=some (.slice e)/\P.info? e=some i/\i.size=n:=by
 unfold zBU at h
 split at h
 ·rename_i e he
  cases hi:P.info? e with
  |none=>simp[hi]at h
  |some i=>simp[hi]at h;exact⟨e,i,zCw he,hi,h⟩
 ·cases h
section
variable {P:Program}{η:List Ob}{σ:Sl}{dst:Option Nat}{ty:TypeId}{pos:String}{after:Array Edge}{gd:Option (Nat×Bool)}
theorem zHR{o:Oper}{x:Operand}{s:SV}(ho:o.op=.move x\/o.op=.assign x)(h:oval σ x=s): Ylds P η σ o s:=by
 refine Ylds.same fun g w a hi hx=>⟨a.eval x,?_,?_⟩
 ·rcases ho with ho|ho <;> simp[execOp,ho]
 ·have:=hx x (by rcases ho with ho|ho <;> simp[ho,Op.operands])
  rw[h]at this;exact this
theorem zAC{x:Operand}{d:D}(h:oval σ x=.d d): Ylds P η σ ⟨dst,.move x,ty,pos,after,gd⟩ (.d d):=zHR (.inl rfl) h
theorem zAU{x:Operand}{i o:Nat}(h:oval σ x=.ptr i o): Ylds P η σ ⟨dst,.move x,ty,pos,after,gd⟩ (.ptr i o):=zHR (.inl rfl) h
theorem zBB{x:Operand}{i n:Nat}(h:oval σ x=.buf i n): Ylds P η σ ⟨dst,.move x,ty,pos,after,gd⟩ (.buf i n):=zHR (.inl rfl) h
theorem zCp{x:Operand}{f:FuncId}{ids:List Nat}(h:oval σ x=.clo f ids): Ylds P η σ ⟨dst,.move x,ty,pos,after,gd⟩ (.clo f ids):=zHR (.inl rfl) h
theorem zAB{x:Operand}{d:D}(h:oval σ x=.d d): Ylds P η σ ⟨dst,.assign x,ty,pos,after,gd⟩ (.d d):=zHR (.inr rfl) h
theorem zA0{x:Operand}(h:oval σ x=.nil): Ylds P η σ ⟨dst,.assign x,ty,pos,after,gd⟩ .nil:=zHR (.inr rfl) h
theorem zJk{x:Operand}{i o:Nat}(h:oval σ x=.ptr i o): Ylds P η σ ⟨dst,.assign x,ty,pos,after,gd⟩ (.ptr i o):=zHR (.inr rfl) h
theorem zAp{x:Operand}{i n:Nat}(h:oval σ x=.buf i n): Ylds P η σ ⟨dst,.assign x,ty,pos,after,gd⟩ (.buf i n):=zHR (.inr rfl) h
theorem zFM{x:Operand}{f:FuncId}{ids:List Nat}(h:oval σ x=.clo f ids): Ylds P η σ ⟨dst,.assign x,ty,pos,after,gd⟩ (.clo f ids):=zHR (.inr rfl) h
theorem zAj{c x y:Operand}{d:D}(hc:oval σ c=.d (.val (.bool true)))(hx:oval σ x=.d d): Ylds P η σ ⟨dst,.pick c x y,ty,pos,after,gd⟩ (.d d):=by
 refine Ylds.same fun g w a hi h=>⟨a.eval x,?_,?_⟩
 ·have h1:=h c sO;rw[hc]at h1
  simp[execOp,RepD.val_eq h1,asBool]
 ·have h2:=h x sO;rw[hx]at h2;exact h2
theorem zAi{c x y:Operand}{d:D}(hc:oval σ c=.d (.val (.bool false)))(hy:oval σ y=.d d): Ylds P η σ ⟨dst,.pick c x y,ty,pos,after,gd⟩ (.d d):=by
 refine Ylds.same fun g w a hi h=>⟨a.eval y,?_,?_⟩
 ·have h1:=h c sO;rw[hc]at h1
  simp[execOp,RepD.val_eq h1,asBool]
 ·have h2:=h y sO;rw[hy]at h2;exact h2
theorem zG9{op:BinOp}{t yt:TypeId}{x y:Operand}{u v r:Value}(hx:oval σ x=.d (.val u))(hy:oval σ y=.d (.val v))
  (hr:∀w,((do eqGuard op t x y u v;binOp op t u v:Sem Value)).run P w=.ok r w):Ylds P η σ ⟨dst,.binOp op t x y yt,ty,pos,after,gd⟩ (.d (.val r)):=by
 refine Ylds.same fun g w a hi h=>⟨r,?_,.val r⟩
 have h1:=h x sO;rw[hx]at h1
 have h2:=h y sO;rw[hy]at h2
 have:=hr w
 simp only[execOp,RepD.val_eq h1,RepD.val_eq h2,Sem.run_bind,Sem.run_pure]at this ⊢
 generalize (eqGuard op t x y u v).run P w=A at this ⊢
 cases A with
 |ok q w'=>simp only[Result.andThen_ok]at this ⊢;rw[this];rfl
 |halt q w'=>simp only[Result.andThen_halt]at this;cases this
theorem Y_un{op:UnOp}{t:TypeId}{x:Operand}{u r:Value}(hx:oval σ x=.d (.val u))(hr:Op.unary op u=pure r): Ylds P η σ ⟨dst,.unOp op t x,ty,pos,after,gd⟩ (.d (.val r)):=by
 refine Ylds.same fun g w a hi h=>⟨r,?_,.val r⟩
 have h1:=h x sO;rw[hx]at h1
 simp[execOp,RepD.val_eq h1,hr]
variable {t yt:TypeId}{x y:Operand}
theorem zCt{k:IntKind}{m n:Int}(hx:oval σ x=.d (.val (.int k m)))(hy:oval σ y=.d (.val (.int k n))): Ylds P η σ ⟨dst,.binOp .lss t x y yt,ty,pos,after,gd⟩ (.d (.val (.bool (decide (m<n))))) :=
 zG9 hx hy fun w=>by simp[go_sem,binOp_lss]
theorem zI3{k:IntKind}{m n:Int}(hx:oval σ x=.d (.val (.int k m)))(hy:oval σ y=.d (.val (.int k n))): Ylds P η σ ⟨dst,.binOp .leq t x y yt,ty,pos,after,gd⟩ (.d (.val (.bool (decide (m<=n))))) :=
 zG9 hx hy fun w=>by simp[go_sem,binOp_leq]
theorem zF4{k:IntKind}{m n:Int}(hx:oval σ x=.d (.val (.int k m)))(hy:oval σ y=.d (.val (.int k n))): Ylds P η σ ⟨dst,.binOp .gtr t x y yt,ty,pos,after,gd⟩ (.d (.val (.bool (decide (m>n))))) :=
 zG9 hx hy fun w=>by simp[go_sem,binOp_gtr]
theorem zFU{k:IntKind}{m n:Int}(hx:oval σ x=.d (.val (.int k m)))(hy:oval σ y=.d (.val (.int k n))): Ylds P η σ ⟨dst,.binOp .geq t x y yt,ty,pos,after,gd⟩ (.d (.val (.bool (decide (m>=n))))) :=
 zG9 hx hy fun w=>by simp[go_sem,binOp_geq]
theorem zDz{k:IntKind}{m n:Int}(hx:oval σ x=.d (.val (.int k m)))(hy:oval σ y=.d (.val (.int k n))): Ylds P η σ ⟨dst,.binOp .eql t x y yt,ty,pos,after,gd⟩ (.d (.val (.bool (decide (m=n))))) :=
 zG9 hx hy fun w=>by
  simp only[go_sem,binOp_eql,eqGuard_at_int,Sem.run_bind,Sem.run_pure,Result.andThen_ok,Result.ok.injEq,Value.bool.injEq,and_true]
  by_cases h:m=n <;> simp[h]
theorem zEp{k:IntKind}{m n:Int}(hx:oval σ x=.d (.val (.int k m)))(hy:oval σ y=.d (.val (.int k n))): Ylds P η σ ⟨dst,.binOp .neq t x y yt,ty,pos,after,gd⟩ (.d (.val (.bool (decide (m≠n))))) :=
 zG9 hx hy fun w=>by
  simp only[go_sem,binOp_neq,eqGuard_at_int,Sem.run_bind,Sem.run_pure,Result.andThen_ok,Result.ok.injEq,Value.bool.injEq,and_true]
  by_cases h:m=n <;> simp[h]
theorem zNe{n:Int}(h1:-9223372036854775808<=n)(h2:n<=9223372036854775807): IntKind.i64.wrap n=n:=Go.IntWalk.i64_in n ⟨h1,h2⟩
theorem zBN{m n:Int}(hx:oval σ x=.d (.val (.int .i64 m)))(hy:oval σ y=.d (.val (.int .i64 n)))(h1:-9223372036854775808<=m+n/\m+n<=9223372036854775807): Ylds P η σ ⟨dst,.binOp .add t x y yt,ty,pos,after,gd⟩ (.d (.val (.int .i64 (m+n)))) :=
 zG9 hx hy fun w=>by
  simp only[eqGuard_add,binOp_add,Op.intArith,Sem.run_bind,Sem.run_pure,Result.andThen_ok]
  rw[zNe h1.1 h1.2]
theorem zI1{m n:Int}(hx:oval σ x=.d (.val (.int .i64 m)))(hy:oval σ y=.d (.val (.int .i64 n)))(h1:-9223372036854775808<=m-n/\m-n<=9223372036854775807): Ylds P η σ ⟨dst,.binOp .sub t x y yt,ty,pos,after,gd⟩ (.d (.val (.int .i64 (m-n)))) :=
 zG9 hx hy fun w=>by
  simp only[eqGuard_sub,binOp_sub,Op.intArith,Sem.run_bind,Sem.run_pure,Result.andThen_ok]
  rw[zNe h1.1 h1.2]
theorem zRu{k:IntKind}{m n:Int}(hx:oval σ x=.d (.val (.int k m)))(hy:oval σ y=.d (.val (.int k n))): Ylds P η σ ⟨dst,.binOp .add t x y yt,ty,pos,after,gd⟩ (.d (.val (.int k (k.wrap (m+n))))) :=
 zG9 hx hy fun w=>by simp only[eqGuard_add,binOp_add,Op.intArith,Sem.run_bind,Sem.run_pure,Result.andThen_ok]
theorem zPG{k:IntKind}{m n:Int}(hx:oval σ x=.d (.val (.int k m)))(hy:oval σ y=.d (.val (.int k n))): Ylds P η σ ⟨dst,.binOp .sub t x y yt,ty,pos,after,gd⟩ (.d (.val (.int k (k.wrap (m-n))))) :=
 zG9 hx hy fun w=>by simp only[eqGuard_sub,binOp_sub,Op.intArith,Sem.run_bind,Sem.run_pure,Result.andThen_ok]
theorem zY8{k:IntKind}{m n:Int}(hx:oval σ x=.d (.val (.int k m)))(hy:oval σ y=.d (.val (.int k n))): Ylds P η σ ⟨dst,.binOp .mul t x y yt,ty,pos,after,gd⟩ (.d (.val (.int k (k.wrap (m*n))))) :=
 zG9 hx hy fun w=>by simp only[eqGuard_mul,binOp_mul,Op.intArith,Sem.run_bind,Sem.run_pure,Result.andThen_ok]
theorem zBY{b:Bool}(hx:oval σ x=.d (.val (.bool b))): Ylds P η σ ⟨dst,.unOp .not t x,ty,pos,after,gd⟩ (.d (.val (.bool (!b)))):=Y_un hx rfl
theorem zHC{a b:Bool}(hx:oval σ x=.d (.val (.bool a)))(hy:oval σ y=.d (.val (.bool b)))(hu:P.underlying t=some .bool): Ylds P η σ ⟨dst,.binOp .neq t x y yt,ty,pos,after,gd⟩ (.d (.val (.bool (a != b)))) :=
 zG9 hx hy fun w=>by simp[eqGuard_at_bool,run_neq_bool w t a b hu];cases a <;> cases b <;> rfl
theorem zCo{xs:List D}(hx:oval σ x=.d (.slice xs))(hu:(zCB P t).isSome=true): Ylds P η σ ⟨dst,.call ⟨.builtin .len, #[x], #[t]⟩,ty,pos,after,gd⟩ (.d (.val (.int .i64 (xs.length:Int)))):=by
 obtain⟨e,he⟩:=Option.isSome_iff_exists.1 hu
 refine Ylds.same fun g w a hi h=>⟨.int .i64 (xs.length:Int),?_,.val _⟩
 have h1:=h x pAG;rw[hx]at h1
 change RepD _ _ _ _ at h1
 generalize hv:a.eval x=v at h1
 cases h1 with
 |slice ad len cap sz _ us hlen =>
  subst hlen
  simp[execOp,resolve,invoke,builtin,Builtin.len_,run_underlying (zCw he),hv,goInt]
theorem zC6{i n:Nat}(hx:oval σ x=.buf i n)(hu:(zCB P t).isSome=true): Ylds P η σ ⟨dst,.call ⟨.builtin .len, #[x], #[t]⟩,ty,pos,after,gd⟩ (.d (.val (.int .i64 (n:Int)))):=by
 obtain⟨e,he⟩:=Option.isSome_iff_exists.1 hu
 refine Ylds.same fun g w a hi h=>⟨.int .i64 (n:Int),?_,.val _⟩
 have h1:=h x pAG;rw[hx]at h1
 obtain⟨_,h1⟩:=h1
 simp[execOp,resolve,invoke,builtin,Builtin.len_,run_underlying (zCw he),h1,goInt]
theorem zWL{s:ByteArray}(hx:oval σ x=.d (.val (.string s)))(hu:P.underlying t=some .string): Ylds P η σ ⟨dst,.call ⟨.builtin .len, #[x], #[t]⟩,ty,pos,after,gd⟩ (.d (.val (.int .i64 (s.size:Int)))):=by
 refine Ylds.same fun g w a hi h=>⟨.int .i64 (s.size:Int),?_,.val _⟩
 have h1:=h x pAG;rw[hx]at h1
 simp[execOp,resolve,invoke,builtin,Builtin.len_,run_underlying hu,RepD.val_eq h1,goInt]
theorem zdJ{k:IntKind}{m n:Int}{ts:Array TypeId}(hx:oval σ x=.d (.val (.int k m)))(hy:oval σ y=.d (.val (.int k n))): Ylds P η σ ⟨dst,.call ⟨.builtin .max, #[x,y],ts⟩,ty,pos,after,gd⟩ (.d (.val (.int k (max m n)))):=by
 refine Ylds.same fun g w a hi h=>⟨.int k (max m n),?_,.val _⟩
 have h1:=h x pAG;rw[hx]at h1
 have h2:=h y pAG;rw[hy]at h2
 simp[execOp,resolve,invoke,builtin,RepD.val_eq h1,RepD.val_eq h2,run_max_int2];omega
theorem zAb{i:Nat}{ds:List D}{d:D}(hx:oval σ x=.d (.tup ds))(hd:ds[i]?=some d): Ylds P η σ ⟨dst,.extract x i,ty,pos,after,gd⟩ (.d d):=by
 refine Ylds.same fun g w a hi h=>?_
 have h1:=h x sO;rw[hx]at h1
 change RepD _ _ _ _ at h1
 generalize hv:a.eval x=v at h1
 cases h1 with
 |tup vs cs hl hr =>
  have hlt:i<vs.length:=by rw[hl];exact(qAA.1 hd).1
  refine⟨vs[i],?_,hr i _ _ (qAB hlt) hd⟩
  simp[execOp,hv,Instr.extract,hlt]
theorem zCQ{xs:List D}{sz:Nat}(h:∀x∈xs,x.flat.length=sz): (zC2 xs).length=xs.length*sz:=by
 induction xs with
 |nil=>simp[zC2]
 |cons x r ih =>
  have h1:=h x sI
  have h2:=ih (fun y hy=>h y (by simp[hy]))
  simp only[zC2,qBM,qAH,qAK]at h2 ⊢
  rw[h1,h2,qA8];omega
theorem zG4{sz:Nat}: ∀{xs:List D} (_:∀x∈xs,x.flat.length=sz) {i:Nat} {d:D} (_:xs[i]?=some d) {j:Nat} (_:j<sz),(zC2 xs)[i*sz+j]?=d.flat[j]?
 |[],_,i,d,hi,_,_=>by simp at hi
 |x::r,h,0,d,hi,j,hj=>by
  simp at hi;subst hi
  have h1:=h x sI
  simp only[zC2,qBM]
  rw[qAG oM];simp
 |x::r,h,i+1,d,hi,j,hj=>by
  have h1:=h x sI
  simp at hi
  have ih:=zG4 (sz:=sz) (xs:=r) (fun y hy=>h y (by simp[hy])) hi hj
  simp only[zC2,qBM]at ih ⊢
  rw[qAD (by rw[h1,qA8];omega)]
  rw[<-ih,h1];congr 1;rw[qA8];omega
theorem zYK(a:Addr)(i j:Nat): (a.add i).add j=a.add (i+j):=by
 unfold Addr.add
 by_cases hi:i=0 <;> by_cases hj:j=0 <;> simp[hi,hj,Nat.add_assoc]
theorem Cell.shift{St:Stab}{w:World}{ad:Addr}{i j:Nat}{u:Value}(h:Cell St w ad (i+j) u): Cell St w (ad.add i) j u:=by
 refine⟨?_,by rw[zYK];exact h.2⟩
 have:=h.1
 unfold Addr.add
 by_cases hi:i=0
 ·subst hi;simpa using this
 ·simp[hi];simpa[Nat.add_assoc]using this
theorem zDT{α:Type}(l:List α)(i j:Nat): (l.drop i)[j]?=l[i+j]?:=by simp
theorem zBG{sz:Nat}{n:Int}{xs:List D}{d:D}{k:IntKind}(hx:oval σ x=.d (.slice xs))(hy:oval σ y=.d (.val (.int k n)))(hs:zBU P t=some sz)(h0:0<=n)(hd:xs[n.toNat]?=some d)(hf:d.flat.length=sz)(hp:0<sz):
  Ylds P η σ ⟨dst,.indexAddr t x y,ty,pos,after,gd⟩ (.rptr d.flat):=by
 obtain⟨e,i,hu,hi',hsz'⟩:=zB4 hs
 refine Ylds.same fun g w a hi h=>?_
 have h1:=h x sO;rw[hx]at h1
 have h2:=h y sO;rw[hy]at h2
 change RepD _ _ _ _ at h1
 generalize hv:a.eval x=v at h1
 have hlt:n.toNat<xs.length:=(qAA.1 hd).1
 cases h1 with
 |slice ad len cap sz' _ us hlen hcap hm hsz hus h1c hcell hrep =>
  have hszz:sz'=sz:=by rw[<-hf];exact(hsz d (qAC hd)).symm
  subst hszz
  obtain⟨ad,rfl,hc⟩:=hcell oM
  have hul:us.length=xs.length*sz':=by rw[hus,zCQ hsz]
  have hmul:(n.toNat+1)*sz'<=xs.length*sz':=qAy _ oM
  refine⟨.pointer (some (ad.add (n.toNat*sz'))),?_,ad.add (n.toNat*sz'),(us.drop (n.toNat*sz')).take sz',rfl,?_,?_,?_,?_⟩
  ·have hb:0<=n/\n<(len:Int):=⟨h0,by omega⟩
   simp[execOp,hv,RepD.val_eq h2,Instr.indexAt,asIntOf,run_underlying hu,hb.1,hb.2,sizeOf,typeInfo,hi',hsz']
  ·rw[qAU,qAg,hf,hul];rw[qA8]at hmul;omega
  ·exact fun u hm=>h1c u (qBV (qA3 hm))
  ·intro j u hj
   rw[qAd]at hj
   split at hj
   ·rw[zDT]at hj;exact(hc _ _ hj).shift
   ·cases hj
  ·intro j u d' hj hd'
   rw[qAd]at hj
   split at hj
   ·rename_i hlt'
    rw[zDT]at hj
    exact hrep _ _ _ hj ((zG4 hsz hd hlt').trans hd')
   ·cases hj
theorem zAs{f off:Nat}{cs:List D}(hx:oval σ x=.rptr cs)(hf:zA7 P t f=some off): Ylds P η σ ⟨dst,.fieldAddr t x f,ty,pos,after,gd⟩ (.rptr (cs.drop off)):=by
 refine Ylds.same fun g w a hi h=>?_
 have h1:=h x sO;rw[hx]at h1
 obtain⟨ad,us,hv,hl,ho,hc,hr⟩:=h1
 unfold zA7 at hf
 split at hf
 ·rename_i fs hfs
  split at hf
  ·rename_i fl hfl
   split at hf
   ·rename_i i hi'
    split at hf
    ·cases hf
    ·rename_i hne
     injection hf with hf
     subst hf
     refine⟨.pointer (some (ad.add fl.offset)),?_,ad.add fl.offset,us.drop fl.offset,rfl,by simp[hl],fun u hm=>ho u (qBV hm),fun j u hj=>?_,fun j u d hj hd=>?_⟩
     ·simp[execOp,hv,Instr.fieldAt,run_underlying hfs,hfl,Instr.sureAddr,fieldPlace,sizeOf,typeInfo,hi',hne]
     ·rw[zDT]at hj;exact(hc _ _ hj).shift
     ·rw[zDT]at hj hd;exact hr _ _ _ hj hd
   ·cases hf
  ·cases hf
 ·cases hf
theorem zCb{P:Program}{t:TypeId}{b:Bool}{n:Nat}(h:zBh P t=some (b,n))(w:World): (isAgg t).run P w=.ok b w/\(sizeOf t).run P w=.ok n w:=by
 unfold zBh at h
 split at h
 ·rename_i d i hd hi
  simp only[qBt,Prod.mk.injEq]at h
  refine⟨?_,by simp[sizeOf,typeInfo,hi,h.2]⟩
  unfold isAgg
  simp only[Sem.run_bind,run_underlying hd,Result.andThen_ok]
  rw[<-h.1]
  cases d <;> rfl
 ·cases h
theorem zAR{cs:List D}{d:D}{n:Nat}(hx:oval σ x=.rptr (d::cs))(ht:zBh P t=some (false,n)): Ylds P η σ ⟨dst,.load t x,ty,pos,after,gd⟩ (.d d):=by
 refine Ylds.same fun g w a hi h=>?_
 have h1:=h x sO;rw[hx]at h1
 obtain⟨ad,us,hv,hl,ho,hc,hr⟩:=h1
 cases us with
 |nil=>simp at hl
 |cons u us =>
  have h0:=(hc 0 u rfl).2
  refine⟨u,?_,hr 0 u d rfl rfl⟩
  simp only[Addr.add_zero']at h0
  simp[execOp,hv,Instr.loadAt,Instr.sureAddr,loadVar,(zCb ht w).1,h0]
theorem zAl{cs:List D}{n:Nat}(hx:oval σ x=.rptr cs)(ht:zBh P t=some (true,n))(hn:Nat.ble n cs.length=true): Ylds P η σ ⟨dst,.load t x,ty,pos,after,gd⟩ (.d (.agg (cs.take n))):=by
 have hn:=qAM hn
 refine Ylds.same fun g w a hi h=>?_
 have h1:=h x sO;rw[hx]at h1
 obtain⟨ad,us,hv,hl,ho,hc,hr⟩:=h1
 have hrun:=run_loadCells_list (P:=P) w ad (us.take n) (fun j v hj=>(hc j v (by rw[qAd]at hj;split at hj <;> simp_all)).2)
 have hlen:(us.take n).length=n:=by rw[qAU];omega
 rw[hlen]at hrun
 refine⟨.agg (us.take n).toArray,?_,.agg _ _ (by simp[hl]) (fun u hm=>ho u (qA3 hm)) (fun j u d hj hd=>?_)⟩
 ·simp only[execOp,hv,Instr.loadAt,Instr.sureAddr,loadVar,Sem.run_bind,Sem.run_pure,Result.andThen_ok,(zCb ht w).1,(zCb ht w).2,if_true,hrun]
 ·rw[qAd]at hj hd
  split at hj
  ·rename_i hlt;rw[if_pos hlt]at hd;exact hr _ _ _ hj hd
  ·cases hj
end
open Go.RowKit
def RepDs(St:Stab)(w:World): List Value->List D->Prop
 |[],[]=>True
 |v::vs,d::ds=>RepD St w v d/\RepDs St w vs ds
 |_,_=>False
def zAX(P:Program)(f:FuncId)(ds:List D)(res:D): Prop :=
 ∀(St:Stab) (w:World) (vs:List Value),(∀b o,St b o->b<w.heap.size)->Glob St w->RepDs St w vs ds->
  Calls P f vs.toArray w (fun e w'=>∃v St',e=.returned v/\RepD St' w' v res/\Below w.heap.size w w'/\Keep St w St' w'/\
   (∀b o,St' b o->St b o\/w.heap.size<=b)/\(∀b o,St' b o->b<w'.heap.size))
def Co(η:List Ob)(s:SV)(d:D): Prop :=
 match s with
 | .d d'=>d'=d
 | .nil=>d=.slice []\/d=.val (.slice none 0 0)
 | .buf id n=>∃e sz xs,η[id]?=some (.buf false e sz xs)/\n<=xs.length/\d=.slice (xs.take n)
 | .clo f ids=>ids=[]/\d=.clo f []
 |_=>False
theorem zHD{η:List Ob}{id n:Nat}{e sz:Nat}{xs:List D}(h:η[id]?=some (.buf false e sz xs))(hn:n=xs.length): Co η (.buf id n) (.slice xs):=⟨e,sz,xs,h,by omega,by rw[hn,qBF]⟩
theorem zFk{sz:Nat}: ∀{xs:List D} (_:∀x∈xs,x.flat.length=sz) (n:Nat),zC2 (xs.take n)=(zC2 xs).take (n*sz)
 |[],_,n=>by simp[zC2]
 |x::r,h,0=>by simp[zC2]
 |x::r,h,n+1=>by
  have h1:=h x sI
  have ih:=zFk (sz:=sz) (xs:=r) (fun y hy=>h y (by simp[hy])) n
  simp only[zC2,qBi,qBM]at ih ⊢
  have e1:x.flat.take ((n+1)*sz)=x.flat:=qAe (by rw[h1,qA8];omega)
  have e2:(n+1)*sz-x.flat.length=n*sz:=by rw[h1,qA8];omega
  rw[ih,List.take_append,e1,e2]
theorem Co.rep{η:List Ob}{g:Gh}{w:World}{v:Value}{s:SV}{d:D}(hi:Inv g w η)(h:RepS g w v s)(hc:Co η s d): RepD g.St w v d:=by
 unfold Co at hc
 split at hc
 ·subst hc;exact h
 ·change v=_ at h
  subst h
  rcases hc with rfl|rfl
  ·exact .slice none 0 0 0 [] [] rfl (qAN _) (qAO _) sI rfl sI sI sI
  ·exact .val _
 ·rename_i id n
  obtain⟨e,sz,xs,ho,hn,rfl⟩:=hc
  obtain⟨hs,hf,hm,hl,hb⟩:=hi.ob id _ ho
  obtain⟨_,rfl⟩:=h
  have hlen:(xs.take n).length=n:=by rw[qAU];omega
  rcases hb with⟨hb,hc0⟩|⟨b,us,hb,hh,hsz,h1,hr,hst⟩
  ·have hx:xs=[]:=qAf oM
   subst hx
   have hn0:n=0:=by simpa using hn
   subst hn0
   refine .slice _ 0 _ 0 _ [] sI (qAO _) hm sI (by simp[zC2]) sI sI sI
  ·have hul:xs.length*sz<=us.size:=by rw[hsz];exact qAy _ hl
   have hnl:n*sz<=xs.length*sz:=qAy _ hn
   have hft:=zFk hf n
   refine .slice _ n _ sz _ (us.toList.take (n*sz)) hlen.symm oM hm (fun x hx=>hf x (qA3 hx)) ?_ ?_ ?_ ?_
   ·rw[hft,qAU,qAU,zCQ hf,qAV];omega
   ·intro u hu
    obtain⟨j,hj,rfl⟩:=qBf.1 hu
    rw[List.getElem_take]
    rw[qAU,qAV]at hj
    exact h1 j _ oM (by rw[Array.getElem_toList];exact qAP oM)
   ·intro _
    refine⟨⟨b,0,none⟩,by rw[hb];rfl,fun j u hj=>?_⟩
    rw[qAd]at hj
    split at hj
    ·rename_i hlt
     refine⟨(hst _).2 ⟨rfl,by simp;omega⟩,?_⟩
     rw[Addr.add_lit,qAS,cell_of_row w b j us e (0,0) hh]
     simpa using hj
    ·cases hj
   ·intro j u d hj hd
    rw[hft]at hd
    rw[qAd]at hj hd
    split at hj
    ·rename_i hlt
     rw[if_pos hlt]at hd
     exact hr j u d pAK hd
    ·cases hj
 ·obtain⟨rfl,rfl⟩:=hc
  obtain⟨vs,rfl,hl,_⟩:=h
  cases vs with
  |nil=>exact .clo _ [] [] rfl fun j u d hu=>by simp at hu
  |cons u r=>simp at hl
 ·exact hc.elim
def CoL(η:List Ob)(σ:Sl): List Operand->List D->Prop
 |[],[]=>True
 |x::xs,d::ds=>Co η (oval σ x) d/\CoL η σ xs ds
 |_,_=>False
theorem zAF{η:List Ob}{σ:Sl}: CoL η σ [] []:=trivial
theorem zAL{η:List Ob}{σ:Sl}{x:Operand}{xs:List Operand}{d:D}{ds:List D}(h:oval σ x=.d d)(r:CoL η σ xs ds): CoL η σ (x::xs) (d::ds):=⟨by rw[h];rfl,r⟩
def coG(σ:Sl):List Operand->List SV|[]=>[]|x::r=>oval σ x::coG σ r
theorem CoLA{η:List Ob}{σ:Sl}:∀{xs:List Operand}{ds:List D},coG σ xs=ds.map SV.d->CoL η σ xs ds
 |[],[],_=>zAF
 |_::_,_::_,h=>by
  simp only [coG,qA1,List.cons.injEq] at h
  exact zAL h.1 (CoLA h.2)
 |[],_::_,h=>by simp [coG] at h
 |_::_,[],h=>by simp [coG] at h
theorem zEo{η:List Ob}{σ:Sl}{x:Operand}{xs:List Operand}{ds:List D}(h:oval σ x=.nil)(r:CoL η σ xs ds): CoL η σ (x::xs) (.slice []::ds):=⟨by rw[h];exact .inl rfl,r⟩
theorem zEH{η:List Ob}{σ:Sl}{x:Operand}{xs:List Operand}{ys:List D}{ds:List D}{id n:Nat}{e sz:Nat}(h:oval σ x=.buf id n)(ho:η[id]?=some (.buf false e sz ys))(hn:n=ys.length)(r:CoL η σ xs ds): CoL η σ (x::xs) (.slice ys::ds) :=
 ⟨by rw[h];exact zHD ho hn,r⟩
theorem CoL.rep{η:List Ob}{σ:Sl}{g:Gh}{w:World}{a:Act}(hi:Inv g w η): ∀(xs:List Operand) (ds:List D),(∀x∈xs,RepS g w (a.eval x) (oval σ x))->CoL η σ xs ds->RepDs g.St w (xs.map a.eval) ds
 |[],[],_,_=>trivial
 |x::xs,d::ds,h,hc=>⟨hc.1.rep hi (h x sI),CoL.rep hi xs ds (fun y hy=>h y (by simp[hy])) hc.2⟩
 |[],_::_,_,hc=>hc.elim
 |_::_,[],_,hc=>hc.elim
theorem zO3{P:Program}{f:FuncId}{fn:Func}{args:Array Value}{w:World}(hf:P.funcs[f]?=some fn)(hb:fn.body.isNone=false)(hn:(fn.name == "runtime.NumGoroutine")=false): (callFunc f args).run P w=.ok (.enter f args) w:=by
 unfold callFunc
 simp only[Sem.run_bind,run_program,Result.andThen_ok,hf,hn,hb,qBb,if_false]
 rfl
def zAQ(P:Program)(f:FuncId): Bool :=
 match P.funcs[f]? with
 |some fn=>!fn.body.isNone && !(fn.name == "runtime.NumGoroutine")
 |none=>false
theorem zDG{P:Program}{f:FuncId}{args:Array Value}{w:World}(h:zAQ P f=true): (callFunc f args).run P w=.ok (.enter f args) w:=by
 unfold zAQ at h
 split at h
 ·rename_i fn hf
  simp only[qAR,Bool.not_eq_true']at h
  exact zO3 hf h.1 h.2
 ·cases h
section
variable {P:Program}{η:List Ob}{σ:Sl}{dst:Option Nat}{ty:TypeId}{pos:String}{after:Array Edge}{gd:Option (Nat×Bool)}
theorem zAP{f:FuncId}{args:List Operand}{ts:Array TypeId}{ds:List D}{res:D}(hb:zAQ P f=true)(hc:zAX P f ds res)(ha:CoL η σ args ds):
  Ylds P η σ ⟨dst,.call ⟨.value (.func f),args.toArray,ts⟩,ty,pos,after,gd⟩ (.d res):=by
 intro g w a hi hx
 have hr:=CoL.rep (a:=a) hi args ds (fun x hm=>hx x (by simp[Op.operands,Call.operands,hm])) ha
 refine .inr ⟨f,(args.map a.eval).toArray,?_,?_⟩
 ·simp only[execOp,resolve,Act.eval,Deferred.ofValue,invoke,Sem.run_bind,Sem.run_pure,Result.andThen_ok,qA4,qBW,qBq]
  exact zDG hb
 ·refine(hc g.St w _ hi.st hi.gl hr).mono fun e w' ⟨v,St',he,hrep,hbel,hkeep,hnew,hlt⟩=>?_
  exact⟨v,{ g with St:=St' },he,⟨rfl,rfl,rfl,rfl,hbel.os,hbel.tape,hbel.output,hbel.size,hbel.block,hkeep.sub,hnew,hlt⟩,hrep⟩
theorem ycA{f:FuncId}{args:List Operand}{ts:Array TypeId}{ds:List D}{res:D}(hb:zAQ P f=true)(hc:zAX P f ds res)(ha:CoL η σ args ds:=by exact CoLA rfl): Ylds P η σ ⟨dst,.call ⟨.value (.func f),args.toArray,ts⟩,ty,pos,after,gd⟩ (.d res):=zAP hb hc ha
end
def zQD: List D->Nat->Sl
 |[],_=>[]
 |d::ds,k=>(k,.d d)::zQD ds (k+1)
def ResOk(rs:Array ResultVar)(σ:Sl)(η:List Ob)(res:D): Prop :=
 match rs.toList,res with
 |[.tmp r],d=>Co η (get σ r) d
 |[.tmp r,.tmp s],.tup [d1,d2]=>Co η (get σ r) d1/\Co η (get σ s) d2
 |[.tmp r,.tmp s,.tmp t],.tup [d1,d2,d3]=>Co η (get σ r) d1/\Co η (get σ s) d2/\Co η (get σ t) d3
 |_,_=>False
def zBj(rs:Array ResultVar)(res:D): Exit->Sl->List Ob->Prop
 | .ret,σ,η=>ResOk rs σ η res
 | .normal,σ,η=>ResOk rs σ η res
 |_,_,_=>False
theorem zAO{rs:Array ResultVar}{res:D}{σ:Sl}{η:List Ob}(h:ResOk rs σ η res): zBj rs res .ret σ η:=h
theorem ResOk.run{rs:Array ResultVar}{σ:Sl}{η:List Ob}{res:D}{P:Program}{fn:Func}{g:Gh}{w:World}{a:Act}{C:Ctx}(hrs:fn.results=rs)(h:ResOk rs σ η res)(ha:AbsG C g σ η a w): ∃v,(results fn a.tmps).run P w=.ok v w/\RepD g.St w v res:=by
 obtain⟨rl⟩:=rs
 unfold ResOk at h
 split at h
 ·rename_i r hr
  simp at hr;subst hr
  exact⟨_,results_tmp hrs _ _ _,h.rep ha.inv (ha.rep _)⟩
 ·rename_i r s d1 d2 hr
  simp at hr;subst hr
  refine⟨_,results_tmp2 hrs _ _ _,?_⟩
  refine .tup [_,_] _ rfl fun j u d hu hd=>?_
  match j with
  |0=>simp at hu hd;subst hu;subst hd;exact h.1.rep ha.inv (by simpa using ha.rep r)
  |1=>simp at hu hd;subst hu;subst hd;exact h.2.rep ha.inv (by simpa using ha.rep s)
  |j+2=>simp at hu
 ·rename_i r s t d1 d2 d3 hr
  simp at hr;subst hr
  refine⟨_,results_tmp3 hrs _ _ _,?_⟩
  refine .tup [_,_,_] _ rfl fun j u d hu hd=>?_
  match j with
  |0=>simp at hu hd;subst hu;subst hd;exact h.1.rep ha.inv (by simpa using ha.rep r)
  |1=>simp at hu hd;subst hu;subst hd;exact h.2.1.rep ha.inv (by simpa using ha.rep s)
  |2=>simp at hu hd;subst hu;subst hd;exact h.2.2.rep ha.inv (by simpa using ha.rep t)
  |j+3=>simp at hu
 ·exact h.elim
theorem RepDs.len{St:Stab}{w:World}: ∀{vs:List Value} {ds:List D},RepDs St w vs ds->vs.length=ds.length
 |[],[],_=>rfl
 |_::_,_::_,h=>by simp[RepDs.len h.2]
 |[],_::_,h=>h.elim
 |_::_,[],h=>h.elim
theorem zIz{g:Gh}{w:World}: ∀(vs:List Value) (ds:List D) (k:Nat) (f:Nat->Value),RepDs g.St w vs ds->(∀j v,vs[j]?=some v->f (k+j)=v)->∀t,RepS g w (f t) (get (zQD ds k) t)
 |[],[],_,_,_,_,_=>trivial
 |v::vs,d::ds,k,f,h,hf,t=>by
  unfold zQD
  rw[zBl]
  split
  ·rename_i e;subst e
   have:=hf 0 v rfl
   rw[qBI]at this
   rw[this];exact h.1
  ·exact zIz vs ds (k+1) f h.2 (fun j v' hj=>by rw[<-hf (j+1) v' hj];congr 1;omega) t
 |[],_::_,_,_,h,_,_=>h.elim
 |_::_,[],_,_,h,_,_=>h.elim
theorem zAc{P:Program}{f:FuncId}{fn:Func}{c:Code}{ds:List D}{res:D}{N:Nat}{rs:Array ResultVar}(hf:P.funcs[f]?=some fn)(hb:fn.body=some c)(hN:fn.ntmps=N)(hrs:fn.results=rs)(hl:Nat.ble ds.length N=true)
  (h:∀(w0:World) (St0:Stab),awp ⟨P,N,w0,St0,fun _=>False,0⟩ c (zBj rs res) (zQD ds 0) []):zAX P f ds res:=by
 intro St w vs hst hgl hrep
 subst hN
 have hl:=qAM hl
 have hlen:=hrep.len
 refine calls_of_wp hf hb (h w St _ ?_ _ _ ?_)
 ·intro e σ' η' a' w' hq ⟨g,ha⟩
  have fin:ResOk rs σ' η' res->a'.defers=[]/\∃v,(results fn a'.tmps).run P w' = .ok v w'/\∃v_1 St',Ending.returned v=.returned v_1/\RepD St' w' v_1 res/\Below w.heap.size w w'/\Keep St w St' w'/\
   (∀b o,St' b o->St b o\/w.heap.size<=b)/\(∀b o,St' b o->b<w'.heap.size):=by
   intro hq
   obtain⟨v,hr,hd⟩:=hq.run (P:=P) hrs ha
   refine⟨ha.defers,v,hr,v,g.St,rfl,hd,⟨ha.os,ha.tape,ha.output,ha.wsize,fun k hk=>ha.heap k hk (fun h=>h)⟩,ha.keep,fun b o hb=>?_,ha.inv.st⟩
   rcases ha.new b o hb with h1|h1|h1
   ·exact .inl h1
   ·exact .inr h1
   ·exact h1.elim
  cases e <;> first|exact fin hq|exact hq.elim
 ·refine⟨⟨St,fun _=>none,fun _=>0,fun _=>0,0⟩,rfl,?_,⟨rfl,fun _ _ h=>by simp at h,fun _ _=>rfl,fun _ _ _ h=>by simp at h,fun _ _ h=>by simp at h,hst,hgl⟩,rfl,rfl,rfl,qAN _,fun _ _ _=>rfl,Keep.refl St w,fun _ _ h=>.inl h,fun _ _ h=>by simp at h,?_⟩
  ·simp[hlen];omega
  ·refine zIz vs ds 0 _ hrep fun j v hj=>?_
   have hjl:j<vs.length:=(qAA.1 hj).1
   simp only[qAS,qAQ]
   rw[qAl (by simpa using hjl)]
   simp[hj]
end Go.Sx
namespace Go.Sx
section
variable {C:Ctx}{dr:Bool}{ops:Array Oper}{rest:List Oper}{K:Sl->List Ob->Prop}{σ:Sl}{η:List Ob}{s:SV}{d:Nat}{op:Op}{ty:TypeId}{pos:String}{after:Array Edge}
def zBJ(C:Ctx)(dr:Bool)(ops:Array Oper)(o:Oper)(rest:List Oper)(K:Sl->List Ob->Prop)(σ:Sl)(η:List Ob): Prop :=
 match dr with
 |true=>(∃s,Ylds C.P η σ o s/\zFA C.N o.dst/\zBZ C ops rest K (put σ o.dst s) η)\/(zIx ops rest.length=true/\EStep C o (zBZ C ops rest K) σ η)
 |false=>∀(Q:Exit->Act->World->Prop),(∀σ' η' a w,K σ' η'->Abs C σ' η' a w->Q .normal a w)->∀a w,Abs C σ η a w->∀K':Act->World->Prop,(∀a w,wpList C.P ops Q rest a w->K' a w)->o.wp C.P a w K' Q
theorem zLP{o:Oper}(hw:Wants ops σ o.guard true)(h:zBJ C dr ops o rest K σ η): alex C dr ops (o::rest) K σ η:=by
 cases dr with
 |true =>
  rcases h with⟨s,h1,h2,h3⟩|⟨h1,h2⟩
  ·exact .inl ⟨s,.inl ⟨hw,h1⟩,h2,h3⟩
  ·exact .inr ⟨h1,hw,h2⟩
 |false =>
  intro Q hQ a w hab
  refine wpList_step fun K' hK'=>?_
  obtain⟨g,ha⟩:=hab
  rw[if_pos (hw.wanted fun t _ _ _ _=>ha.rep t)]
  exact h Q hQ a w ⟨g,ha⟩ K' hK'
theorem zQS{P:Program}{o:Oper}{a:Act}{w:World}{K:Act->World->Prop}{Q Q':Exit->Act->World->Prop}(h:∀e a w,e≠.normal->Q e a w->Q' e a w)(hh:o.wp P a w K Q): o.wp P a w K Q':=by
 unfold Oper.wp at *
 generalize (execOp a.eval o).run P w=r at *
 cases r with
 |ok n w' =>
  cases n <;> simp only[Oper.upon]at hh ⊢ <;>
   first
    |exact hh
    |exact Calls.mono hh (fun e w'' he=>by
      cases e with
      |returned v=>exact he
      |panicked ch=>exact h _ _ _ sI he
      |outgrown=>obtain⟨a,w,hq⟩:=he;exact⟨a,w,h _ _ _ sI hq⟩)
 |halt x w'=>cases x <;> simp only[Oper.upon]at hh ⊢ <;> first|exact h _ _ _ sI hh|exact hh
theorem zEN{o:Oper}(hb:zIx ops rest.length=true)(h:zBJ C false ops o [] (fun σ' η'=>alex C true ops rest K σ' η') σ η): zBJ C true ops o rest K σ η:=by
 refine .inr ⟨hb,fun Q a w hab=>?_⟩
 have:=h (fun e a w=>match e with | .normal=>∃σ' η',zBZ C ops rest K σ' η'/\Abs C σ' η' a w|e=>Q e a w) (fun σ' η' a w hk hab=>⟨σ',η',hk,hab⟩) a w hab (fun a w=>∃σ' η',zBZ C ops rest K σ' η'/\Abs C σ' η' a w) (fun a w hw=>hw)
 exact zQS (fun e a w hne hq=>by cases e <;> first|exact absurd rfl hne|exact hq) this
theorem w0(h:zBJ C dr ops ⟨some d,op,ty,pos,after,none⟩ rest K σ η): alex C dr ops (⟨some d,op,ty,pos,after,none⟩::rest) K σ η :=
 zLP (show Wants _ _ none true from rfl) h
theorem w0'(h:zBJ C dr ops ⟨none,op,ty,pos,after,none⟩ rest K σ η): alex C dr ops (⟨none,op,ty,pos,after,none⟩::rest) K σ η :=
 zLP (show Wants _ _ none true from rfl) h
theorem w1{j:Nat}{want:Bool}{t:Nat}(h1:(ops[j]?).bind (·.dst)=some t)(h2:get σ t=.d (.val (.bool want)))(h:zBJ C dr ops ⟨some d,op,ty,pos,after,some (j,want)⟩ rest K σ η):
  alex C dr ops (⟨some d,op,ty,pos,after,some (j,want)⟩::rest) K σ η :=
 zLP (show Wants _ _ (some (j,want)) true from⟨t,h1,by simpa using h2⟩) h
theorem k1{j:Nat}{t:Nat}(h1:(ops[j]?).bind (·.dst)=some t)(h2:get σ t=.d (.val (.bool false)))(hd:Nat.blt d C.N=true)(h:alex C dr ops rest K ((d,.top)::σ) η):
  alex C dr ops (⟨some d,op,ty,pos,after,some (j,true)⟩::rest) K σ η :=
 zMP (show Wants _ _ (some (j,true)) false from⟨t,h1,by simpa using h2⟩) hd h
theorem k0{j:Nat}{t:Nat}(h1:(ops[j]?).bind (·.dst)=some t)(h2:get σ t=.d (.val (.bool true)))(hd:Nat.blt d C.N=true)(h:alex C dr ops rest K ((d,.top)::σ) η):
  alex C dr ops (⟨some d,op,ty,pos,after,some (j,false)⟩::rest) K σ η :=
 zMP (show Wants _ _ (some (j,false)) false from⟨t,h1,by simpa using h2⟩) hd h
theorem g1{j:Nat}{want:Bool}{t:Nat}{b:Bool}(_h1:(ops[j]?).bind (·.dst)=some t)(h2:get σ t=.d (.val (.bool b)))
  (ht:b=true->alex C dr ops (⟨some d,op,ty,pos,after,some (j,want)⟩::rest) K ((t,.d (.val (.bool true)))::σ) η)
  (hf:b=false->alex C dr ops (⟨some d,op,ty,pos,after,some (j,want)⟩::rest) K ((t,.d (.val (.bool false)))::σ) η) :
  alex C dr ops (⟨some d,op,ty,pos,after,some (j,want)⟩::rest) K σ η:=zJX t h2 ht hf
variable {gd:Option (Nat×Bool)}{t yt:TypeId}{x y z:Operand}
theorem ay(hd:Nat.blt d C.N=true)(hy:Ylds C.P η σ ⟨some d,op,ty,pos,after,gd⟩ s)(h:alex C dr ops rest K ((d,s)::σ) η): zBJ C dr ops ⟨some d,op,ty,pos,after,gd⟩ rest K σ η:=by
 cases dr with
 |true=>exact .inl ⟨s,hy,hd,h⟩
 |false=>exact fun Q hQ a w ⟨g,ha⟩ K' hK'=>hy.wp (o:=⟨some d,op,ty,pos,after,gd⟩) hd (fun a w hab=>hK' a w (h Q hQ a w hab)) ha
theorem ayA(hd:Nat.blt d C.N=true)(h:alex C dr ops rest K ((d,s)::σ) η)(hy:Ylds C.P η σ ⟨some d,op,ty,pos,after,gd⟩ s:=by first|exact zAC rfl|exact zAB rfl|exact zBY rfl|exact zAU rfl|exact zJk rfl|exact zBB rfl|exact zAp rfl|exact zA0 rfl|exact zCp rfl|exact zAn rfl|exact zAj rfl rfl|exact zAi rfl rfl|exact zAb rfl rfl|(apply zAI;exact rfl;(with_reducible first|exact fo_1|exact fo_0|exact fo_2|exact fo_3|exact fn_3|exact fn_0|exact fn_1|exact fn_2|exact ff_0|exact ff_1|exact ff_2|exact ff_3|exact ff_4|exact fd_1|exact fd_0|exact fd_2|exact zDn|exact zCA|exact zBt|exact zBW|exact zK6|exact zCZ|exact zKJ|exact zBO|exact zFz|exact zCW|exact zB9|exact zVV|exact zGf|exact zMF|exact zC4|exact zDo|exact zBm|exact zD1|exact zCy|exact zFo|exact zEI|exact zD0|exact zCi|exact zKI|exact zNa|exact zNc|exact zGV|exact zKK|exact zE4|exact zEa|exact zJQ|exact zMD|exact zHh|exact zHg|exact zCP|exact fg_0|exact fg_1))|(apply zAG;exact rfl;(with_reducible first|exact zNo|exact zLl|exact zTc|exact zTd|exact zAa|exact zAm|exact zBi|exact zAf|exact zYc|exact zQi|exact zIO|exact zAx|exact zLk|exact zCK|exact zCY|exact zCV|exact zFS|exact zA8|exact zCJ|exact zB1|exact zTF);exact rfl;exact rfl)|(apply zAY;exact rfl;(with_reducible first|exact zAh|exact zDO|exact zAS|exact zDw|exact zAd|exact zBs);exact rfl;exact rfl;exact rfl)|(apply zAg;exact rfl;(with_reducible first|exact zA5|exact zCT|exact zBz|exact zad|exact zCL|exact zCr|exact zRa|exact zC8|exact zVQ))|(apply zC6;exact rfl;(with_reducible first|exact zCT|exact zBz|exact zA5))|(apply zAR;exact rfl;(with_reducible first|exact zAa|exact zNo|exact zTd|exact zAx|exact zAm|exact zAf|exact zCV|exact zCY|exact zC1|exact zP4|exact zFa|exact zXv|exact zBi|exact zCJ))|(apply zAs;exact rfl;(with_reducible first|exact fn_3|exact fn_0|exact zBt|exact zCA|exact zDn|exact zVU|exact zVT|exact zVS|exact fn_1|exact zHi|exact zE5|exact zFl|exact zML|exact zMK|exact zMJ|exact zMI|exact zMH|exact zMG|exact zME|exact zSn|exact zC4|exact zDo|exact fn_2|exact zBm|exact zCy|exact zNZ|exact zSl|exact zSm))|(apply zAl;exact rfl;(with_reducible first|exact zAh|exact zGU|exact zDO|exact zEj|exact zAd|exact zNp);exact rfl)): zBJ C dr ops ⟨some d,op,ty,pos,after,gd⟩ rest K σ η:=ay hd hy h
theorem ayQ(hd:Nat.blt d C.N=true)(h:alex C dr ops rest K ((d,s)::σ) η)(hy:Ylds C.P η σ ⟨some d,op,ty,pos,after,gd⟩ s:=by first|exact zBH rfl rfl|exact zBA rfl rfl|exact zCC rfl rfl|exact zBQ rfl rfl|exact zA9 rfl rfl|exact zBr rfl rfl|exact zDk rfl rfl|exact zDL rfl rfl|exact zcQ rfl rfl|exact zRs rfl rfl|exact zMR rfl rfl|exact zcR rfl rfl): zBJ C dr ops ⟨some d,op,ty,pos,after,gd⟩ rest K σ η:=ay hd hy h
theorem ayL(hd:Nat.blt d C.N=true)(h:alex C dr ops rest K ((d,s)::σ) η)(hy:Ylds C.P η σ ⟨some d,op,ty,pos,after,gd⟩ s:=by apply zCI;(with_reducible first|exact zEP|exact zab|exact zBL|exact zCg|exact zCn|exact zE3|exact zGg);(with_reducible first|exact zBK|exact zb3|exact zA6|exact zBy|exact zAe|exact zB7|exact zHj);(with_reducible first|exact zKG|exact zck|exact zCq|exact zEh|exact zFn|exact zHS|exact zM7);exact rfl;exact rfl;(first|exact zAL rfl zAF|exact zEH rfl rfl rfl zAF|exact zEo rfl zAF);exact rfl): zBJ C dr ops ⟨some d,op,ty,pos,after,gd⟩ rest K σ η:=ay hd hy h
end
section
variable {K:Sl->List Ob->Prop}{Q:Exit->Sl->List Ob->Prop}{σ:Sl}{η:List Ob}
theorem en_n(h:K σ η): zBb K Q .normal σ η:=h
theorem en_r(h:Q .ret σ η): zBb K Q .ret σ η:=h
theorem en_e{i:Nat}(h:Q (.exit i) σ η): zBb K Q (.exit i) σ η:=h
theorem en_g{i:Nat}(h:Q (.goto i) σ η): zBb K Q (.goto i) σ η:=h
theorem eb_n{i:Nat}(h:Q .normal σ η): zBD i Q .normal σ η:=h
theorem eb_r{i:Nat}(h:Q .ret σ η): zBD i Q .ret σ η:=h
theorem eb_e{i:Nat}(h:Q .normal σ η): zBD i Q (.exit i) σ η:=by simp only[zBD,if_true];exact h
theorem eb_o{i j:Nat}(hj:Nat.beq j i=false)(h:Q (.exit j) σ η): zBD i Q (.exit j) σ η:=by
 have hne:j≠i:=fun e=>by subst e;simp at hj
 simp only[zBD,if_neg hne];exact h
theorem ej_r{l:Nat}(h:Q .ret σ η): zBd l K Q .ret σ η:=h
theorem ej_g{l:Nat}(h:K σ η): zBd l K Q (.goto l) σ η:=⟨rfl,h⟩
end
section
variable {C:Ctx}{Q:Exit->Sl->List Ob->Prop}{σ:Sl}{η:List Ob}{x:Operand}{c d:Code}
theorem zAJ(hx:oval σ x=.d (.val (.bool true)))(h:awp C c Q σ η): awp C (.cond x c d) Q σ η:=zCd hx (fun _=>h) (fun h=>by cases h)
theorem zAK(hx:oval σ x=.d (.val (.bool false)))(h:awp C d Q σ η): awp C (.cond x c d) Q σ η:=zCd hx (fun h=>by cases h) (fun _=>h)
theorem zA3{p:Prop}{ip:Decidable p}(hx:oval σ x=.d (.val (.bool (decide p))))(h1:p->awp C c Q σ η)(h2:¬p->awp C d Q σ η): awp C (.cond x c d) Q σ η :=
 zCd hx (fun h=>h1 (of_decide_eq_true h)) (fun h=>h2 (of_decide_eq_false h))
theorem zLN{p:Prop}{ip:Decidable p}(hx:oval σ x=.d (.val (.bool (!decide p))))(h1:¬p->awp C c Q σ η)(h2:p->awp C d Q σ η): awp C (.cond x c d) Q σ η :=
 zCd hx (fun h=>h1 (by simpa using h)) (fun h=>h2 (by simpa using h))
end
section
variable {C:Ctx}{dr:Bool}{ops:Array Oper}{rest:List Oper}{K:Sl->List Ob->Prop}{σ:Sl}{η:List Ob}{s:SV}{d:Nat}{op:Op}{ty:TypeId}{pos:String}{after:Array Edge}{j:Nat}{want:Bool}{t:Nat}{p:Prop}
theorem gD{ip:Decidable p}(_h1:(ops[j]?).bind (·.dst)=some t)(h2:get σ t=.d (.val (.bool (decide p))))
  (ht:p->alex C dr ops (⟨some d,op,ty,pos,after,some (j,want)⟩::rest) K ((t,.d (.val (.bool true)))::σ) η)
  (hf:¬p->alex C dr ops (⟨some d,op,ty,pos,after,some (j,want)⟩::rest) K ((t,.d (.val (.bool false)))::σ) η) :
  alex C dr ops (⟨some d,op,ty,pos,after,some (j,want)⟩::rest) K σ η:=zJX t h2 (fun h=>ht (of_decide_eq_true h)) (fun h=>hf (of_decide_eq_false h))
theorem gN{ip:Decidable p}(_h1:(ops[j]?).bind (·.dst)=some t)(h2:get σ t=.d (.val (.bool (!decide p))))
  (ht:¬p->alex C dr ops (⟨some d,op,ty,pos,after,some (j,want)⟩::rest) K ((t,.d (.val (.bool true)))::σ) η)
  (hf:p->alex C dr ops (⟨some d,op,ty,pos,after,some (j,want)⟩::rest) K ((t,.d (.val (.bool false)))::σ) η) :
  alex C dr ops (⟨some d,op,ty,pos,after,some (j,want)⟩::rest) K σ η:=zJX t h2 (fun h=>ht (by simpa using h)) (fun h=>hf (by simpa using h))
end
section
variable {P:Program}{η:List Ob}{σ:Sl}{dst:Option Nat}{ty:TypeId}{pos:String}{after:Array Edge}{gd:Option (Nat×Bool)}{x:Operand}{t:TypeId}
theorem zAg{α:Type}{enc:α->D}{L:List α}(hx:oval σ x=.d (.slice (L.map enc)))(hu:(zCB P t).isSome=true): Ylds P η σ ⟨dst,.call ⟨.builtin .len, #[x], #[t]⟩,ty,pos,after,gd⟩ (.d (.val (.int .i64 (L.length:Int)))):=by
 have:=zCo (dst:=dst) (ty:=ty) (pos:=pos) (after:=after) (gd:=gd) (η:=η) hx hu
 rwa [qAE]at this
end
section
variable {η:List Ob}{σ:Sl}
theorem Le_nil: Le [] σ:=fun _=>.inr rfl
theorem Le_cons{k:Nat}{s:SV}{r:Sl}(h:get σ k=s)(hr:Le r σ): Le ((k,s)::r) σ:=fun t=>by
 rw[zBl];split
 ·rename_i e;subst e;exact .inl h.symm
 ·exact hr t
def leG(σ:Sl):Sl->List SV|[]=>[]|(k,_)::r=>get σ k::leG σ r
def leW:Sl->List SV|[]=>[]|(_,s)::r=>s::leW r
theorem Le_all{σ:Sl}:∀{s:Sl},leG σ s=leW s->Le s σ
 |[],_=>Le_nil
 |(_,_)::_,h=>by
  simp only [leG,leW,List.cons.injEq] at h
  exact Le_cons h.1 (Le_all h.2)
theorem res1{r:Nat}{d d':D}(h:get σ r=.d d')(e:d'=d): ResOk #[.tmp r] σ η d:=by subst e;show Co η (get σ r) d';rw[h];rfl
theorem zZh{r:Nat}{d:D}(h:get σ r=.nil)(e:D.slice []=d): ResOk #[.tmp r] σ η d:=by subst e;show Co η (get σ r) _;rw[h];exact .inl rfl
theorem zIU{r:Nat}{d:D}{id n e sz:Nat}{xs:List D}(h:get σ r=.buf id n)(ho:η[id]?=some (.buf false e sz xs))(hn:n=xs.length)(he:D.slice xs=d): ResOk #[.tmp r] σ η d:=by subst he;show Co η (get σ r) _;rw[h];exact zHD ho hn
theorem res2{r r2:Nat}{d1 d2 d1' d2':D}(h1:get σ r=.d d1')(h2:get σ r2=.d d2')(e1:d1'=d1)(e2:d2'=d2): ResOk #[.tmp r,.tmp r2] σ η (.tup [d1,d2]):=by
 subst e1;subst e2;show Co η (get σ r) _/\Co η (get σ r2) _;rw[h1,h2];exact⟨rfl,rfl⟩
theorem zcm{r r2:Nat}{d1 d2 d2':D}(h1:get σ r=.nil)(h2:get σ r2=.d d2')(e1:D.slice []=d1)(e2:d2'=d2): ResOk #[.tmp r,.tmp r2] σ η (.tup [d1,d2]):=by
 subst e1;subst e2;show Co η (get σ r) _/\Co η (get σ r2) _;rw[h1,h2];exact⟨.inl rfl,rfl⟩
theorem zbN{r r2:Nat}{d1 d2 d2':D}{id n e sz:Nat}{xs:List D}(h1:get σ r=.buf id n)(ho:η[id]?=some (.buf false e sz xs))(hn:n=xs.length)(h2:get σ r2=.d d2')(e1:D.slice xs=d1)(e2:d2'=d2): ResOk #[.tmp r,.tmp r2] σ η (.tup [d1,d2]):=by
 subst e1;subst e2;show Co η (get σ r) _/\Co η (get σ r2) _;rw[h1,h2];exact⟨zHD ho hn,rfl⟩
end
def zF1(l:List Oper): Bool :=
 (List.range l.length).all fun j=>match l[j]? with
  |none=>true
  |some oj=>(match oj.op with | .select _ _=>false|_=>true) &&
   oj.after.all (fun e=>!Region.binds .any e||decide (e.on<j)) &&
   (List.range j).all fun k=>match l[k]? with
    |some ok=>oj.after.any (fun e=>Region.binds .any e&&e.on==k)||ok.apart l.toArray oj
    |none=>true
def pst: Sl->Nat->List Oper->List SV->(Nat->Bool)->Sl
 |σ,k,o::l,s::ss,f=>pst (match f k with|true=>put σ o.dst s|false=>σ) (k+1) l ss f
 |σ,_,_,_,_=>σ
theorem zHe{σ:Sl}{d:Option Nat}{s:SV}{t:Nat}(h:d≠some t): get (put σ d s) t=get σ t:=by
 cases d with
 |none=>rfl
 |some d=>rw[put,zBl,if_neg (fun e=>h (by rw[e]))]
theorem zCz(t:Nat): ∀(l:List Oper) (ss:List SV) (σ σ':Sl) (k:Nat) (f g:Nat->Bool),get σ t=get σ' t->
  (∀i o,l[i]?=some o->f (k+i)≠g (k+i)->o.dst≠some t)->get (pst σ k l ss f) t=get (pst σ' k l ss g) t
 |[],_,_,_,_,_,_,h,_=>by simpa[pst]using h
 |_::_,[],_,_,_,_,_,h,_=>by simpa[pst]using h
 |o::l,s::ss,σ,σ',k,f,g,h,hd=>by
  unfold pst
  refine zCz t l ss _ _ (k+1) f g ?_ (fun i o' hi hne=>hd (i+1) o' pAH (by rw[show k+(i+1)=k+1+i by omega];exact hne))
  have h0:=hd 0 o rfl
  rw[qBI]at h0
  have hput:∀{τ τ':Sl},get τ t=get τ' t->get (put τ o.dst s) t=get (put τ' o.dst s) t:=by
   intro τ τ' e
   cases hdst:o.dst with
   |none=>exact e
   |some d=>simp only[put,zBl,e]
  cases hf:f k <;> cases hg:g k <;> simp only[]
  ·exact h
  ·rw[zHe (h0 (by rw[hf,hg];simp))];exact h
  ·rw[zHe (h0 (by rw[hf,hg];simp))];exact h
  ·exact hput h
theorem zQs(t:Nat)(j:Nat): ∀(l:List Oper) (ss:List SV) (σ:Sl) (k:Nat) (f:Nat->Bool) (oj:Oper) (sj:SV),l[j]?=some oj->ss[j]?=some sj->f (k+j)=false->
  (∀i o,l[i]?=some o->j<i->f (k+i)=true->o.dst≠oj.dst\/oj.dst=none)->
  get (put (pst σ k l ss f) oj.dst sj) t=get (pst σ k l ss (fun i=>i==k+j||f i)) t:=by
 induction j with
 |zero =>
  intro l ss σ k f oj sj hl hs hf hd
  match l,ss,hl,hs with
  |o::l,s::ss,hl,hs =>
   simp at hl hs;subst hl;subst hs
   unfold pst
   rw[qBI]at hf
   simp only[hf,qBI,BEq.rfl,Bool.true_or]
   by_cases ht:o.dst=some t
   ·
    have hno:∀i o',l[i]?=some o'->f (k+1+i)=true->o'.dst≠some t:=by
     intro i o' hi hfi
     rcases hd (i+1) o' pAH oM (by rw[show k+(i+1)=k+1+i by omega];exact hfi)with h|h
     ·rw[ht]at h;exact h
     ·rw[ht]at h;cases h
    have e1:get (put (pst σ (k+1) l ss f) o.dst s) t=s:=by rw[ht];simp[put,zBl]
    have e2:=zCz t l ss (put σ o.dst s) (put σ o.dst s) (k+1) (fun i=>i==k||f i) (fun _=>false) rfl (fun i o' hi hne=>by
     refine hno i o' hi ?_
     have:(k+1+i==k)=false:=by simp;omega
     simpa[this]using hne)
    have e3:∀(l:List Oper) (ss:List SV) (τ:Sl) (k:Nat),pst τ k l ss (fun _=>false)=τ:=by
     intro l
     induction l with
     |nil=>intro ss τ k;simp[pst]
     |cons o l ih=>intro ss τ k;cases ss with
      |nil=>simp[pst]
      |cons s ss=>simp only[pst];exact ih ss τ (k+1)
    rw[e1,e2,e3,ht];simp[put,zBl]
   ·rw[zHe ht]
    refine zCz t l ss _ _ (k+1) _ _ (zHe ht).symm (fun i o' hi hne=>?_)
    have:(k+1+i==k)=false:=by simp;omega
    simp[this]at hne
 |succ j ih =>
  intro l ss σ k f oj sj hl hs hf hd
  match l,ss,hl,hs with
  |o::l,s::ss,hl,hs =>
   simp at hl hs
   unfold pst
   have hk:(k==k+(j+1))=false:=by simp
   have hkk:k+(j+1)=k+1+j:=by omega
   simp only[hk,qBJ]
   rw[hkk]
   exact ih l ss _ (k+1) f oj sj hl hs (by rw[<-hkk];exact hf) (fun i o' hi hlt hfi=>hd (i+1) o' pAH oM (by rw[show k+(i+1)=k+1+i by omega];exact hfi))
theorem zFB(l:List Oper): ∀(ss:List SV) (τ:Sl) (k:Nat),pst τ k l ss (fun _=>false)=τ:=by
 induction l with
 |nil=>intro ss τ k;simp[pst]
 |cons o l ih=>intro ss τ k;cases ss with
  |nil=>simp[pst]
  |cons s ss=>simp only[pst];exact ih ss τ (k+1)
theorem zPC{C:Ctx}{η:List Ob}{ops:Array Oper}{K:Sl->List Ob->Prop}: ∀(l:List Oper) (σ:Sl) (k:Nat),zBZ C ops l K σ η->
  ∃ss:List SV,ss.length<=l.length/\((ss.length=l.length/\∃σ',K σ' η/\Le σ' (pst σ k l ss (fun i=>decide (i<k+ss.length))))\/
    ∃o,l[ss.length]?=some o/\zIx ops (l.length-ss.length-1)=true/\Wants ops (pst σ k l ss (fun i=>decide (i<k+ss.length))) o.guard true/\EStep C o (zBZ C ops (l.drop (ss.length+1)) K) (pst σ k l ss (fun i=>decide (i<k+ss.length))) η)/\
   ∀j o s,l[j]?=some o->ss[j]?=some s->zFA C.N o.dst/\
    ((Wants ops (pst σ k l ss (fun i=>decide (i<k+j))) o.guard true/\Ylds C.P η (pst σ k l ss (fun i=>decide (i<k+j))) o s)\/(Skips ops (pst σ k l ss (fun i=>decide (i<k+j))) o.guard/\(s=.top\/s=.d (.val undef))))
 |[],σ,k,h=>by
  obtain⟨σ',h1,h2⟩:=h
  exact⟨[],qAN _,.inl ⟨rfl,σ',h1,by simpa[pst]using h2⟩,fun j o s hj=>by simp at hj⟩
 |o::l,σ,k,.inr ⟨h1,h2,h3⟩=>by
  refine⟨[],qAO _,.inr ⟨o,rfl,by simpa using h1,by simpa[pst]using h2,by simpa[pst]using h3⟩,fun j o s _ hs=>by simp at hs⟩
 |o::l,σ,k,.inl ⟨s,h1,h2,h3⟩=>by
  obtain⟨ss,e1,e2,e3⟩:=zPC l _ (k+1) h3
  have hd0:decide (k<k+(s::ss).length)=true:=by simp
  have ee:pst σ k (o::l) (s::ss) (fun i=>decide (i<k+(s::ss).length))=pst (put σ o.dst s) (k+1) l ss (fun i=>decide (i<k+1+ss.length)):=by
   have he:k+(s::ss).length=k+1+ss.length:=by simp only[qAK];omega
   conv=>lhs;unfold pst
   rw[he]at hd0
   simp only[he,hd0]
  refine⟨s::ss,by simp only[qAK];omega,?_,fun j o' s' hj hs=>?_⟩
  ·rw[ee]
   rcases e2 with⟨e2,e4⟩|⟨p,e2,e4,e5,e6⟩
   ·exact .inl ⟨by simp[e2],e4⟩
   ·exact .inr ⟨p,by simpa using e2,by simpa using e4,e5,by simpa using e6⟩
  ·cases j with
   |zero =>
    simp at hj hs;subst hj;subst hs
    have e0:∀t,get (pst σ k (o::l) (s::ss) (fun i=>decide (i<k+0))) t=get σ t:=by
     intro t
     have:=zCz t (o::l) (s::ss) σ σ k (fun i=>decide (i<k+0)) (fun _=>false) rfl (fun i o' hi hne=>by simp at hne)
     rw[this,zFB]
    refine⟨h2,?_⟩
    rcases h1 with⟨h1,h4⟩|⟨h1,h4⟩
    ·exact .inl ⟨h1.congr e0,h4.congr fun x _=>zEZ e0 x⟩
    ·exact .inr ⟨h1.congr e0,h4⟩
   |succ j =>
    simp at hj hs
    have:=e3 j o' s' hj hs
    have hk:k+(j+1)=k+1+j:=by omega
    unfold pst
    rw[hk]
    have hd:decide (k<k+1+j)=true:=by simp;omega
    simp only[hd]
    exact this
theorem zCf{ops:Array Oper}{f:Nat->Bool}(hcl:∀j o,ops[j]?=some o->f j=true->∀e∈o.after,Region.binds .any e=true->f e.on=true){i:Nat}: ∀(n j:Nat) (o:Oper),ops[j]?=some o->(∀e∈o.after,Region.binds .any e=true->f e.on=true)->zEy ops n j i=true->f i=true
 |0,_,_,_,_,h=>by simp[zEy]at h
 |n+1,j,o,ho,hd,h=>by
  simp only[zEy,ho]at h
  obtain⟨q,hq,he⟩:=Array.any_eq_true.1 h
  simp only[qAR,Bool.or_eq_true]at he
  obtain⟨hb,he⟩:=he
  have h1:=hd _ (Array.getElem_mem hq) hb
  rcases he with he|⟨_,he⟩
  ·rw[qAX he]at h1;exact h1
  ·cases hp:ops[(o.after[q]).on]? with
   |none=>cases n with
    |zero=>simp[zEy]at he
    |succ n=>simp[zEy,hp]at he
   |some p=>exact zCf hcl n _ p hp (fun e hm hb'=>hcl _ p hp h1 e hm hb') he
theorem zB2{ops:Array Oper}{o:Oper}{t:Nat}(h:Operand.tmp t∈o.op.operands): t∈o.looksAt ops:=by
 unfold Oper.looksAt
 refine List.mem_append_left _ (List.mem_filterMap.2 ⟨.tmp t,by simpa using h,rfl⟩)
theorem zGy{ops:Array Oper}{o:Oper}{j t:Nat}{q:Bool}(h:o.guard=some (j,q))(ht:(ops[j]?).bind (·.dst)=some t): t∈o.looksAt ops:=by
 unfold Oper.looksAt
 refine List.mem_append_right _ ?_
 rw[h];simp[ht]
theorem setB(listed:Array Bool)(j i:Nat)(hj:j<listed.size): (listed.setIfInBounds j true).getD i true=(i==j||listed.getD i true):=by
 simp only[qAQ,Array.getElem?_setIfInBounds]
 by_cases h:j=i
 ·subst h;simp[hj]
 ·have:(i==j)=false:=by simp;omega
  simp[h,this]
theorem zF0{l:List Oper}(hB:zF1 l=true): ∀j oj,l[j]?=some oj->(∀cs b,oj.op≠.select cs b)/\(∀e∈oj.after,Region.binds .any e=true->e.on<j)/\
   ∀k ok,k<j->l[k]?=some ok->(∃e∈oj.after,Region.binds .any e=true/\e.on=k)\/ok.apart l.toArray oj=true:=by
 intro j oj hj
 have hjl:j<l.length:=(qAA.1 hj).1
 have:=qAI.1 hB j (qBY.2 hjl)
 simp only[hj,qAR]at this
 obtain⟨⟨h1,h2⟩,h3⟩:=this
 refine⟨fun cs b hs=>(by rw[hs]at h1;cases h1),fun e he hb=>?_,fun k ok hk hok=>?_⟩
 ·have:=qBX.1 h2 e he
  simpa[hb]using this
 ·have:=qAI.1 h3 k (qBY.2 hk)
  simp only[hok,Bool.or_eq_true]at this
  rcases this with h|h
  ·left
   obtain⟨i,hi,he⟩:=Array.any_eq_true.1 h
   simp only[qAR,beq_iff_eq]at he
   exact⟨_,Array.getElem_mem hi,he.1,he.2⟩
  ·exact .inr h
theorem zOx{l:List Oper}(hB:zF1 l=true)(listed:Array Bool)(hsz:listed.size=l.length)(hr:Region.ready .any l.toArray listed=[]): ∀j,j<l.length->listed.getD j true=true:=by
 intro j
 induction j using Nat.strongRecOn with
 |_ j ih =>
  intro hj
  cases hc:listed.getD j true with
  |true=>rfl
  |false =>
   exfalso
   have hlj:l[j]?=some l[j]:=qAB hj
   have hm:j∈Region.ready .any l.toArray listed:=by
    refine mem_ready.2 ⟨hc,l[j],by simp,fun e he hb=>?_⟩
    have hlt:=(zF0 hB j _ hlj).2.1 e he hb
    have:=ih e.on hlt oM
    simp only[qAQ]at this ⊢
    rw[qAP oM]at this ⊢
    simpa using this
   rw[hr]at hm;cases hm
theorem zOe{listed:Array Bool}{i:Nat}(h:i<listed.size): listed.getD i true=listed.getD i false:=by
 simp only[qAQ,qAP h,qBE]
theorem zPQ{C:Ctx}{l:List Oper}{Q:Exit->Act->World->Prop}{K:Sl->List Ob->Prop}(hQ:∀σ' η' a w,K σ' η'->Abs C σ' η' a w->Q .normal a w)(hB:zF1 l=true):
  ∀(n s:Nat) (σ:Sl) (η:List Ob),s+n=l.length->zBZ C l.toArray (l.drop s) K σ η->∀(fuel:Nat) (listed:Array Bool) (a:Act) (w:World),listed.size=l.length->(listed.toList.filter (! ·)).length<=fuel->
   (∀j o,l[j]?=some o->listed.getD j true=true->∀e∈o.after,Region.binds .any e=true->listed.getD e.on true=true)->
   (∀i,i<s->listed.getD i true=true)->(∀i,s<=i->i<l.length->listed.getD i true=false)->
   Abs C σ η a w->wpAny C.P .any l.toArray Q fuel listed a w:=by
 have spec:=zF0 hB
 intro n
 induction n using Nat.strongRecOn with
 |_ n ihn =>
 intro s σ η hsn hal
 obtain⟨ss,hlen,hend,hop⟩:=zPC (l.drop s) σ s hal
 have hdl:(l.drop s).length=n:=by rw[qAg];omega
 rw[hdl]at hlen hend
 have inner:∀(fuel:Nat) (listed:Array Bool) (a:Act) (w:World),listed.size=l.length->(listed.toList.filter (! ·)).length<=fuel->
   (∀j o,l[j]?=some o->listed.getD j true=true->∀e∈o.after,Region.binds .any e=true->listed.getD e.on true=true)->
   (∀i,i<s->listed.getD i true=true)->(∀i,s+ss.length<=i->i<l.length->listed.getD i true=false)->
   Abs C (pst σ s (l.drop s) ss (fun i=>listed.getD i true)) η a w->wpAny C.P .any l.toArray Q fuel listed a w:=by
  have fin:∀(listed:Array Bool) (a:Act) (w:World),listed.size=l.length->Region.ready .any l.toArray listed=[]->(∀i,s+ss.length<=i->i<l.length->listed.getD i true=false)->
    Abs C (pst σ s (l.drop s) ss (fun i=>listed.getD i true)) η a w->Q .normal a w:=by
   intro listed a w hsz hr hno hab
   have full:=zOx hB listed hsz hr
   rcases hend with⟨e1,σ',hk,hle⟩|⟨o,ho,_⟩
   ·refine hQ σ' η a w hk (hab.le fun t=>?_)
    rw[zCz t (l.drop s) ss σ σ s (fun i=>listed.getD i true) (fun i=>decide (i<s+ss.length)) rfl (fun i o hi hne=>?_)]
    ·exact hle t
    ·have hil:=(qAA.1 hi).1
     rw[hdl]at hil
     have h1:=full (s+i) oM
     have h2:decide (s+i<s+ss.length)=true:=by simp;omega
     simp only[h1,h2]at hne
     exact absurd rfl hne
   ·exfalso
    have hil:=(qAA.1 ho).1
    rw[hdl]at hil
    have h1:=full (s+ss.length) oM
    rw[hno (s+ss.length) (qAN _) oM]at h1;cases h1
  intro fuel
  induction fuel with
  |zero =>
   intro listed a w hsz hc _ _ hno hab
   have hnil:Region.ready .any l.toArray listed=[]:=by
    cases hr:Region.ready .any l.toArray listed with
    |nil=>rfl
    |cons x xs =>
     exfalso
     have hx:x∈Region.ready .any l.toArray listed:=by rw[hr];simp
     have h0:=(mem_ready.1 hx).1
     have hxl:x<listed.size:=by
      rcases qAF x listed.size with h|h
      ·exact h
      ·rw[qAQ,Array.getElem?_eq_none h]at h0;cases h0
     have:false∈listed.toList.filter (! ·):=by
      rw[List.mem_filter]
      refine⟨?_,rfl⟩
      rw[qAQ,qAP hxl]at h0
      simp at h0
      rw[<-h0];exact Array.mem_toList_iff.2 (Array.getElem_mem hxl)
     have:=List.length_pos_of_mem this
     omega
   exact⟨hnil,fin listed a w hsz hnil hno hab⟩
  |succ fuel ih =>
   intro listed a w hsz hc hpre hlow hno hab
   refine⟨fun hr=>fin listed a w hsz hr hno hab,fun j hj=>?_⟩
   obtain⟨hun,oj,hoj,hall⟩:=mem_ready.1 hj
   have hlj:l[j]?=some oj:=by simpa using hoj
   have hjl:j<l.length:=(qAA.1 hlj).1
   have hsj:s<=j:=by
    rcases qAF j s with h|h
    ·rw[hlow j h]at hun;cases hun
    ·exact h
   have hdj:(l.drop s)[j-s]?=some oj:=by rw[qBC,show s+(j-s)=j by omega];exact hlj
   have hcl:∀j o,l.toArray[j]?=some o->listed.getD j true=true->∀e∈o.after,Region.binds .any e=true->listed.getD e.on true=true:=fun j o ho=>hpre j o (by simpa using ho)
   have hall':∀e∈oj.after,Region.binds .any e=true->listed.getD e.on true=true:=by
    intro e he hb
    have hlt:=(spec j oj hlj).2.1 e he hb
    rw[zOe oM];exact hall e he hb
   have cnt:((listed.setIfInBounds j true).toList.filter (! ·)).length<=fuel:=by
    have hjs:j<listed.size:=by omega
    have h0:listed[j]=false:=by
     rw[qAQ,qAP hjs]at hun;simpa using hun
    have e1:listed.toList=listed.toList.take j++false::listed.toList.drop (j+1):=by
     conv=>lhs;rw[<-qAi j listed.toList]
     congr 1
     rw[qAW (by simpa using hjs)]
     congr 1
    have e2:(listed.setIfInBounds j true).toList=listed.toList.take j++true::listed.toList.drop (j+1):=by
     rw[Array.toList_setIfInBounds,List.set_eq_take_append_cons_drop,if_pos (by simpa using hjs)]
    rw[e1]at hc
    rw[e2]
    simp only[List.filter_append,qAH,qBh,Bool.not_false,if_true,qAK,Bool.not_true,qBb,if_false]at hc ⊢
    omega
   have pre':∀i o,l[i]?=some o->(listed.setIfInBounds j true).getD i true=true->∀e∈o.after,Region.binds .any e=true->(listed.setIfInBounds j true).getD e.on true=true:=by
    intro i o hi hli e he hb
    rw[setB listed j _ oM]at hli ⊢
    by_cases hij:i=j
    ·subst hij
     rw[hlj]at hi;injection hi with hi;subst hi
     rw[hall' e he hb];simp
    ·have hbe:(i==j)=false:=by simpa using hij
     rw[hbe,qBJ]at hli
     rw[hpre i o hi hli e he hb];simp
   rcases qBS j (s+ss.length)with hjm|hjm|hjm
   ·
    obtain⟨sj,hss⟩:∃x,ss[j-s]?=some x:=⟨_,qAB oM⟩
    obtain⟨hd,hw⟩:=hop (j-s) oj sj hdj hss
    have hsum:s+(j-s)=j:=by omega
    rw[hsum]at hw
    have same:∀t,t∈oj.looksAt l.toArray->get (pst σ s (l.drop s) ss (fun i=>listed.getD i true)) t=get (pst σ s (l.drop s) ss (fun i=>decide (i<j))) t:=by
     intro t ht
     refine zCz t (l.drop s) ss σ σ s _ _ rfl (fun i o hi hne=>?_)
     rw[qBC]at hi
     have hil:s+i<l.length:=(qAA.1 hi).1
     rcases qBS (s+i) j with h|h|h
     ·have hni:listed.getD (s+i) true=false:=by
       cases hc':listed.getD (s+i) true with
       |false=>rfl
       |true=>exfalso;simp[hc',h]at hne
      rcases(spec j oj hlj).2.2 (s+i) o h hi with⟨e,he,hb,hon⟩|hap
      ·have:=hall' e he hb
       rw[hon,hni]at this;cases this
      ·intro hdt;exact(Oper.apart_spec hap).1 t hdt ht
     ·exfalso;rw[h]at hne;simp[hun]at hne
     ·have hli:listed.getD (s+i) true=true:=by
       cases hc':listed.getD (s+i) true with
       |true=>rfl
       |false =>
        exfalso
        have hdd:decide (s+i<j)=false:=by simp;omega
        simp only[hc',hdd]at hne
        exact hne rfl
      rcases(spec (s+i) o hi).2.2 j oj h hlj with⟨e,he,hb,hon⟩|hap
      ·have:=hpre (s+i) o hi hli e he hb
       rw[hon,hun]at this;cases this
      ·intro hdt;exact(Oper.apart_spec hap).2.2 t hdt ht
    have more:∀t,get (put (pst σ s (l.drop s) ss (fun i=>listed.getD i true)) oj.dst sj) t=get (pst σ s (l.drop s) ss (fun i=>(listed.setIfInBounds j true).getD i true)) t:=by
     intro t
     have h1:=zQs t (j-s) (l.drop s) ss σ s (fun i=>listed.getD i true) oj sj hdj hss (by rw[hsum];exact hun) (fun i o hi hlt' hfi=>by
      rw[qBC]at hi
      rcases(spec (s+i) o hi).2.2 j oj oM hlj with⟨e,he,hb,hon⟩|hap
      ·have:=hpre (s+i) o hi hfi e he hb
       rw[hon,hun]at this;cases this
      ·cases hdd:oj.dst with
       |none=>exact .inr rfl
       |some d=>exact .inl ((Oper.apart_spec hap).2.1 d hdd))
     rw[h1]
     congr 1
     congr 1
     funext i
     rw[setB listed j i oM,hsum]
    have next:∀a' w',Abs C (put (pst σ s (l.drop s) ss (fun i=>listed.getD i true)) oj.dst sj) η a' w'->wpAny C.P .any l.toArray Q fuel (listed.setIfInBounds j true) a' w' :=
     fun a' w' hab'=>ih _ a' w' (by simpa using hsz) cnt pre' (fun i hi=>by rw[setB listed j i oM,hlow i hi];simp) (fun i h1 h2=>by
      rw[setB listed j i oM,hno i h1 h2]
      have:(i==j)=false:=by simp;omega
      rw[this];rfl) (hab'.le fun t=>.inl (more t).symm)
    obtain⟨g,hg⟩:=hab
    unfold wpOp
    simp only[hoj]
    have gw:∀{b:Bool},Wants l.toArray (pst σ s (l.drop s) ss (fun i=>decide (i<j))) oj.guard b->Region.wanted oj (yielded l.toArray a.tmps)=b:=fun hwb =>
     hwb.wanted (g:=g) (w:=w) fun t k q hgd ht=>by rw[<-same t (zGy hgd ht)];exact hg.rep t
    rcases hw with⟨hw,hy⟩|⟨hw,hs⟩
    ·rw[if_pos (gw hw)]
     refine .inl ?_
     have hy':Ylds C.P η (pst σ s (l.drop s) ss (fun i=>listed.getD i true)) oj sj:=hy.congr fun x hx=>by
      cases x with
      |tmp t=>exact same t (zB2 hx)
      |_=>rfl
     exact hy'.wp hd next hg
    ·have gs:Region.wanted oj (yielded l.toArray a.tmps)=false:=hw.wanted (g:=g) (w:=w) fun t k q hgd ht=>by rw[<-same t (zGy hgd ht)];exact hg.rep t
     rw[if_neg (by rw[gs];simp)]
     exact next _ _ ⟨g,hg.put hd (by rcases hs with rfl|rfl;exact trivial;exact .val undef)⟩
   ·
    rcases hend with⟨e1,_⟩|⟨o,ho,hbar,hw,hes⟩
    ·omega
    have hoo:o=oj:=by
     rw[show ss.length=j-s by omega,hdj]at ho;exact(qBR ho).symm
    subst hoo
    simp only[zIx,qAR]at hbar
    obtain⟨⟨_,hb1⟩,_⟩:=hbar
    have hk:l.toArray.size-1-(n-ss.length-1)=j:=by rw[qBN];omega
    rw[hk]at hb1
    have hdone:∀i,i<j->listed.getD i true=true:=fun i hi =>
     zCf (f:=fun i=>listed.getD i true) hcl l.toArray.size j o (by simpa using hlj) hall' (qAI.1 hb1 i (qBY.2 hi))
    have eqs:∀t,get (pst σ s (l.drop s) ss (fun i=>listed.getD i true)) t=get (pst σ s (l.drop s) ss (fun i=>decide (i<s+ss.length))) t:=by
     intro t
     refine zCz t (l.drop s) ss σ σ s _ _ rfl (fun i o' hi hne=>?_)
     have hil:=(qAA.1 hi).1
     rw[hdl]at hil
     exfalso
     rcases qAF (s+i) j with h|h
     ·have h2:decide (s+i<s+ss.length)=true:=by simp;omega
      rw[hdone _ h,h2]at hne;exact hne rfl
     ·have h2:decide (s+i<s+ss.length)=false:=by simp;omega
      rw[hno (s+i) oM oM,h2]at hne;exact hne rfl
    have hab':=hab.le (σ':=pst σ s (l.drop s) ss (fun i=>decide (i<s+ss.length))) fun t=>.inl (eqs t).symm
    obtain⟨g,hg⟩:=hab'
    unfold wpOp
    simp only[hoj]
    rw[if_pos (hw.wanted (g:=g) (w:=w) fun t k q hgd ht=>hg.rep t)]
    refine .inl (Oper.wp_mono (fun a' w' hk=>?_) (hes Q a w ⟨g,hg⟩))
    obtain⟨σ',η',hal',hab'⟩:=hk
    refine ihn (n-ss.length-1) oM (j+1) σ' η' oM ?_ fuel _ a' w' (by simpa using hsz) cnt pre' (fun i hi=>?_) (fun i h1 h2=>?_) hab'
    ·rw[qBs,show s+(ss.length+1)=j+1 by omega]at hal';exact hal'
    ·rw[setB listed j i oM]
     rcases qAF i j with h|h
     ·rw[hdone i h];simp
     ·have:(i==j)=true:=by simp;omega
      rw[this];rfl
    ·rw[setB listed j i oM,hno i oM h2]
     have:(i==j)=false:=by simp;omega
     rw[this];rfl
   ·
    exfalso
    rcases hend with⟨e1,_⟩|⟨o,ho,hbar,hw,hes⟩
    ·omega
    simp only[zIx,qAR]at hbar
    obtain⟨_,hb2⟩:=hbar
    have hk1:l.toArray.size-1-(n-ss.length-1)=s+ss.length:=by rw[qBN];omega
    have hk2:l.toArray.size-(n-ss.length-1)+(j-(s+ss.length)-1)=j:=by rw[qBN];omega
    have:=qAI.1 hb2 (j-(s+ss.length)-1) (qBY.2 oM)
    rw[hk1,hk2]at this
    have:=zCf (f:=fun i=>listed.getD i true) hcl l.toArray.size j oj (by simpa using hlj) hall' this
    rw[hno (s+ss.length) (qAN _) oM]at this;cases this
 intro fuel listed a w hsz hc hpre hlow hhigh hab
 refine inner fuel listed a w hsz hc hpre hlow (fun i h1 h2=>hhigh i oM h2) ?_
 refine hab.le fun t=>.inl ?_
 rw[zCz t (l.drop s) ss σ σ s _ (fun _=>false) rfl (fun i o hi hne=>?_),zFB]
 exfalso
 have hil:=(qAA.1 hi).1
 rw[hdl]at hil
 rw[hhigh (s+i) oM oM]at hne;exact hne rfl
theorem zAy{C:Ctx}{Q:Exit->Sl->List Ob->Prop}{σ:Sl}{η:List Ob}{id:Nat}{l:List Oper}(hm:C.P.follows .mixedOrders=true)(hB:zF1 l=true)(h:alex C true l.toArray l (Q .normal) σ η): awp C (.region id l.toArray true) Q σ η:=by
 intro R hR a w ⟨g,hg⟩
 have hd:Abs C σ η a { w with drawn:=w.drawn+1 }:=⟨g,hg.grow ⟨rfl,rfl,rfl,rfl,rfl,rfl,rfl,qAN _,fun _ _=>rfl,fun _ _ h=>h,fun _ _ h=>.inl h,hg.inv.st⟩⟩
 refine wp_region_any hm (zPQ (K:=Q .normal) (fun σ' η' a w hk hab=>hR _ _ _ _ _ hk hab) hB l.length 0 σ η sI h _ _ a _ sI ?_ ?_ (fun i hi=>by omega) (fun i _ hi=>?_) hd)
 ·refine qAx (qBO _ _) sI
 ·intro j o hj hl
  have hjl:j<l.length:=(qAA.1 hj).1
  rw[qAQ,qAP (by simpa using hjl)]at hl
  simp at hl
 ·rw[qAQ,qAP pAH]
  simp
theorem awDA{C:Ctx}{Q:Exit->Sl->List Ob->Prop}{σ:Sl}{η:List Ob}{id:Nat}{l:List Oper}(h:alex C true l.toArray l (Q .normal) σ η)(hm:C.P.follows .mixedOrders=true:=by kernel_rfl)(hB:zF1 l=true:=by kernel_rfl): awp C (.region id l.toArray true) Q σ η:=zAy hm hB h
open Go.RowKit
def upd{α:Type}(f:Nat->α)(i:Nat)(x:α): Nat->α:=fun j=>if j=i then x else f j
theorem RepS.ext{g g':Gh}{w w':World}{v:Value}{s:SV}(k:Keep g.St w g'.St w')(h:∀id,id<g.n->g'.blk id=g.blk id/\g'.cap id=g.cap id/\g'.sz id=g.sz id)(hn:g.n<=g'.n)(r:RepS g w v s): RepS g' w' v s:=by
 induction s generalizing v with
 |d d=>exact RepD.keep k r
 |nil=>exact r
 |ptr id off=>obtain⟨h1,b,h2,h3⟩:=r;exact⟨by omega,b,by rw[(h id h1).1];exact h2,h3⟩
 |rptr cs =>
  obtain⟨ad,us,h1,h2,h3,h4,h5⟩:=r
  exact⟨ad,us,h1,h2,h3,fun j u hu=>(h4 j u hu).keep k,fun j u d hu hd=>(h5 j u d hu hd).keep k⟩
 |bptr id i off=>obtain⟨h1,b,h2,h3⟩:=r;exact⟨by omega,b,by rw[(h id h1).1];exact h2,by rw[(h id h1).2.2];exact h3⟩
 |buf id n=>obtain⟨h1,h2⟩:=r;exact⟨by omega,by rw[(h id h1).1,(h id h1).2.1];exact h2⟩
 |bsl id off n=>obtain⟨h1,h2⟩:=r;exact⟨by omega,by rw[(h id h1).1,(h id h1).2.1,(h id h1).2.2];exact h2⟩
 |clo f ids =>
  obtain⟨vs,h1,h2,h3⟩:=r
  refine⟨vs,h1,h2,fun j id u hj hu=>?_⟩
  obtain⟨h4,b,h5,h6⟩:=h3 j id u hj hu
  exact⟨by omega,b,by rw[(h id h4).1];exact h5,h6⟩
 |mp id=>obtain⟨h1,b,h2,h3⟩:=r;exact⟨by omega,b,by rw[(h id h1).1];exact h2,h3⟩
 |pair a b ha hb'=>obtain⟨u1,u2,h1,h2,h3⟩:=r;exact⟨u1,u2,h1,ha h2,hb' h3⟩
 |p φ=>exact r
 |top=>trivial
theorem ObOk.ext{g g':Gh}{w w':World}{id:Nat}{o:Ob}(k:Keep g.St w g'.St w')(h:∀id,id<g.n->g'.blk id=g.blk id/\g'.cap id=g.cap id/\g'.sz id=g.sz id)(hn:g.n<=g'.n)(hid:id<g.n)
  (hb:∀b,g.blk id=some b->w'.heap[b]?=w.heap[b]?/\∀o,g'.St b o↔g.St b o) (r:ObOk g w id o):ObOk g' w' id o:=by
 cases o with
 |bx kb et cs =>
  obtain⟨b,e,us,h1,h2,h3,h4,h5,h6,h7⟩:=r
  exact⟨b,e,us,by rw[(h id hid).1];exact h1,(hb b h1).1.trans h2,h3,h4,fun j u s hu hs=>(h5 j u s hu hs).ext k h hn,fun o ho=>h6 o (((hb b h1).2 o).1 ho),h7⟩
 |buf mu e sz xs =>
  obtain⟨h1,h2,h3,h4,h5⟩:=r
  refine⟨by rw[(h id hid).2.2];exact h1,h2,by rw[(h id hid).2.1];exact h3,by rw[(h id hid).2.1];exact h4,?_⟩
  rcases h5 with h5|⟨b,us,h5,h6,h7,h8,h9,h10⟩
  ·exact .inl (by rw[(h id hid).1,(h id hid).2.1];exact h5)
  ·exact .inr ⟨b,us,by rw[(h id hid).1];exact h5,(hb b h5).1.trans h6,by rw[(h id hid).2.1];exact h7,h8,fun j u d hu hd=>(h9 j u d hu hd).keep k,fun o=>((hb b h5).2 o).trans (h10 o)⟩
 |iter s pos =>
  obtain⟨b,h1,h2,h3⟩:=r
  exact⟨b,by rw[(h id hid).1];exact h1,(hb b h1).1.trans h2,fun o ho=>h3 o (((hb b h1).2 o).1 ho)⟩
 |mapq q kb l =>
  obtain⟨b,es,ck,h1,h2,h3,h4,h5,h6⟩:=r
  exact⟨b,es,ck,by rw[(h id hid).1];exact h1,(hb b h1).1.trans h2,h3,fun j e p he hp=>⟨(h4 j e p he hp).1,(h4 j e p he hp).2.keep k⟩,fun o ho=>h5 o (((hb b h1).2 o).1 ho),h6⟩
 |miter m since seen st =>
  obtain⟨b,bm,h1,h2,h3,h4,h5⟩:=r
  exact⟨b,bm,by rw[(h id hid).1];exact h1,by omega,by rw[(h m h2).1];exact h3,(hb b h1).1.trans h4,fun o ho=>h5 o (((hb b h1).2 o).1 ho)⟩
 |gone=>trivial
theorem AbsG.newOb{C:Ctx}{g g':Gh}{σ:Sl}{η:List Ob}{a:Act}{w w':World}(h:AbsG C g σ η a w)(o:Ob)
  (os:w'.os=w.os) (tape:w'.tape=w.tape) (output:w'.output=w.output) (size:w.heap.size<=w'.heap.size)
  (heap:∀k,k<w.heap.size->w'.heap[k]?=w.heap[k]?)
  (hn:g'.n=g.n+1) (hold:∀id,id<g.n->g'.blk id=g.blk id/\g'.cap id=g.cap id/\g'.sz id=g.sz id) (hdead:∀id,g.n+1<=id->g'.blk id=none)
  (hnew:∀b,g'.blk g.n=some b->w.heap.size<=b/\b<w'.heap.size)
  (sub:∀b o,g.St b o->g'.St b o) (new:∀b o,g'.St b o->g.St b o\/w.heap.size<=b) (lt:∀b o,g'.St b o->b<w'.heap.size)
  (_hro:C.ro<=g.n) (ok:ObOk g' w' g.n o):AbsG C g' σ (η++[o]) a w':=by
 have kp:Keep g.St w g'.St w':=⟨sub,fun b o u hb hu=>(World.cell?_of_block (a:=⟨b,o,none⟩) (heap b (h.inv.st b o hb))).trans hu,fun b hb=>heap b (h.inv.st b 0 (hb 0))⟩
 have stb:∀id b,g.blk id=some b->∀o,g'.St b o↔g.St b o:=fun id b hb o=>⟨fun ho=>by
  rcases new b o ho with h1|h1
  ·exact h1
  ·exact absurd (h.inv.lt id b hb) oM,sub b o⟩
 have hlt:∀id b,g'.blk id=some b->(id<g.n/\g.blk id=some b)\/(id=g.n/\w.heap.size<=b/\b<w'.heap.size):=by
  intro id b hb
  rcases qBS id g.n with hc|hc|hc
  ·rw[(hold id hc).1]at hb;exact .inl ⟨hc,hb⟩
  ·subst hc;exact .inr ⟨rfl,hnew b hb⟩
  ·rw[hdead id hc]at hb;cases hb
 refine⟨h.defers,h.size,⟨by rw[hn,h.inv.n];simp,fun id b hb=>?_,fun id hid=>hdead id oM,fun i j b hi hj=>?_,fun id o' ho=>?_,lt,h.inv.gl.keep kp⟩,os.trans h.os,tape.trans h.tape,output.trans h.output,qAx h.wsize size,
  fun k hk hx=>(heap k (qAc hk h.wsize)).trans (h.heap k hk hx),h.keep.trans kp,fun b o hb=>?_,fun id b hb hr=>?_,fun t=>(h.rep t).ext kp hold oM⟩
 ·rcases hlt id b hb with⟨_,h1⟩|⟨_,_,h1⟩
  ·exact qAc (h.inv.lt id b h1) size
  ·exact h1
 ·rcases hlt i b hi with⟨h1,h2⟩|⟨h1,h2,_⟩ <;> rcases hlt j b hj with⟨h3,h4⟩|⟨h3,h4,_⟩
  ·exact h.inv.inj i j b h2 h4
  ·exact absurd (h.inv.lt i b h2) oM
  ·exact absurd (h.inv.lt j b h4) oM
  ·omega
 ·have hl:=h.inv.n
  rw[List.getElem?_append]at ho
  split at ho
  ·rename_i hc
   exact(h.inv.ob id o' ho).ext kp hold oM oM (fun b hb=>⟨heap b (h.inv.lt id b hb),stb id b hb⟩)
  ·rename_i hc
   have hid:id=g.n:=by
    have:=(qAA.1 ho).1
    simp at this;omega
   subst hid
   have:g.n-η.length=0:=by omega
   rw[this]at ho
   simp at ho;subst ho;exact ok
 ·rcases new b o hb with h1|h1
  ·exact h.new b o h1
  ·exact .inr (.inl (qAx h.wsize h1))
 ·rcases hlt id b hb with⟨_,h1⟩|⟨_,h1,_⟩
  ·exact h.own id b h1 hr
  ·exact .inl (qAx h.wsize h1)
theorem AbsG.setBox{C:Ctx}{g:Gh}{σ:Sl}{η:List Ob}{a:Act}{w:World}(h:AbsG C g σ η a w){id b:Nat}{e:TypeId}{us us':Array Value}{kb:Option Nat}{et:Option TypeId}{cs cs':List SV}(hid:η[id]?=some (.bx kb et cs))(hkb:(∀c,kb=some c->c=b)/\∀t,et=some t->t=e)(hb:g.blk id=some b)(hro:C.ro<=id)
  (hh:w.heap[b]?=some (.cells us e (0,0))) (hst:∀o,¬g.St b o) (hl:us'.size=cs'.length) (h1:∀u∈us',u.oneCell'=true) (hr:∀(j:Nat) (u:Value) (s:SV),us'[j]?=some u->cs'[j]?=some s->RepS g w u s) :
  AbsG C g σ (η.set id (.bx kb et cs')) a (w.setRow b us'):=by
 have hoth:∀k,k≠b->(w.setRow b us').heap[k]?=w.heap[k]?:=fun k hk=>setRow_other w b k us' hk
 have kp:Keep g.St w g.St (w.setRow b us'):=⟨fun _ _ h=>h,fun c o u hc hu=>(World.cell?_of_block (a:=⟨c,o,none⟩) (hoth c (fun e=>hst o (e▸hc)))).trans hu,fun c hc=>hoth c (fun e=>hst 0 (e▸hc 0))⟩
 have rk:∀{v:Value} {s:SV},RepS g w v s->RepS g (w.setRow b us') v s:=fun r=>r.ext kp (fun _ _=>⟨rfl,rfl,rfl⟩) (qAN _)
 have hidl:id<η.length:=(qAA.1 hid).1
 refine⟨h.defers,h.size,⟨by rw[qAv];exact h.inv.n,fun i c hc=>by rw[setRow_size];exact h.inv.lt i c hc,h.inv.dead,h.inv.inj,fun i o ho=>?_,fun c o hc=>by rw[setRow_size];exact h.inv.st c o hc,h.inv.gl.keep kp⟩,h.os,h.tape,h.output,by rw[setRow_size];exact h.wsize,
  fun k hk hx=>?_,h.keep.trans kp,h.new,h.own,fun t=>rk (h.rep t)⟩
 ·rw[qAh]at ho
  split at ho
  ·rename_i hc;subst hc
   try rw[if_pos hidl]at ho
   injection ho with ho;subst ho
   exact⟨b,e,us',hb,setRow_heap w b us us' e (0,0) hh,hl,h1,fun j u s hu hs=>rk (hr j u s hu hs),hst,hkb⟩
  ·rename_i hc
   refine(h.inv.ob i o ho).ext kp (fun _ _=>⟨rfl,rfl,rfl⟩) (qAN _) (by rw[h.inv.n];exact(qAA.1 ho).1) (fun c hcb=>⟨hoth c (fun e=>?_),fun _=>Iff.rfl⟩)
   subst e
   exact hc (h.inv.inj id i c hb hcb)
 ·rw[hoth k (fun e=>?_)]
  ·exact h.heap k hk hx
  ·subst e
   rcases h.own id k hb hro with h2|h2
   ·omega
   ·exact hx h2
def one: SV->Bool
 | .d (.val u)=>u.oneCell'
 | .d (.slice _)=>true
 | .d (.ref _)=>true
 | .d (.clo _ _)=>true
 | .d (.tsl _)=>true
 | .d (.ifc _ _)=>true
 | .nil | .ptr _ _ | .rptr _ | .bptr _ _ _ | .buf _ _ | .bsl _ _ _ | .clo _ _ | .mp _=>true
 |_=>false
theorem RepS.one{g:Gh}{w:World}{v:Value}{s:SV}(r:RepS g w v s)(h:one s=true): v.cells = #[v]/\v.oneCell'=true:=by
 have key:v.oneCell'=true->v.cells = #[v]:=by cases v <;> simp[Value.oneCell',Value.cells]
 have:v.oneCell'=true:=by
  cases s with
  |d d =>
   cases d with
   |val u=>have:=RepD.val_eq r;subst this;exact h
   |slice xs=>change RepD _ _ _ _ at r;cases r;rfl
   |agg cs=>cases h
   |tup ds=>cases h
   |ref cs=>change RepD _ _ _ _ at r;cases r;rfl
   |clo f ds=>change RepD _ _ _ _ at r;cases r;rfl
   |tsl xs=>change RepD _ _ _ _ at r;cases r;rfl
   |ifc t d=>change RepD _ _ _ _ at r;cases r;rfl
  |nil=>change _=_ at r;subst r;rfl
  |ptr id off=>obtain⟨_,b,_,rfl⟩:=r;rfl
  |rptr cs=>obtain⟨ad,us,rfl,_⟩:=r;rfl
  |bptr id i off=>obtain⟨_,b,_,rfl⟩:=r;rfl
  |buf id n=>obtain⟨_,rfl⟩:=r;rfl
  |bsl id off n=>obtain⟨_,a,rfl,_⟩:=r;rfl
  |clo f ids=>obtain⟨vs,rfl,_⟩:=r;rfl
  |mp id=>obtain⟨_,b,_,rfl⟩:=r;rfl
  |pair a b=>cases h
  |p φ=>cases h
  |top=>cases h
 exact⟨key this,this⟩
def zHA: SV->Option (List SV)
 | .d (.agg ds)=>some (ds.map .d)
 |s=>match one s with
  |true=>some [s]
  |false=>none
theorem RepS.cells{g:Gh}{w:World}{v:Value}{s:SV}{cs:List SV}(r:RepS g w v s)(h:zHA s=some cs): v.cells.size=cs.length/\(∀u∈v.cells,u.oneCell'=true)/\∀(j:Nat) (u:Value) (s':SV),v.cells[j]?=some u->cs[j]?=some s'->RepS g w u s':=by
 unfold zHA at h
 split at h
 ·rename_i ds
  injection h with h;subst h
  change RepD _ _ _ _ at r
  cases r with
  |agg vs _ hl h1 hr =>
   refine⟨by simp[Value.cells,hl],by simpa[Value.cells]using h1,fun j u s' hu hs=>?_⟩
   simp[Value.cells]at hu
   rw[qAJ]at hs
   cases hd:ds[j]? with
   |none=>simp[hd]at hs
   |some d=>simp[hd]at hs;subst hs;exact hr j u d hu hd
 ·split at h
  ·rename_i h1
   injection h with h;subst h
   obtain⟨e,h2⟩:=r.one h1
   rw[e]
   refine⟨rfl,by simpa using h2,fun j u s' hu hs=>?_⟩
   match j with
   |0=>simp at hu hs;subst hu;subst hs;exact r
   |j+1=>simp at hu
  ·cases h
section
variable {C:Ctx}{ops:Array Oper}{rest:List Oper}{K:Sl->List Ob->Prop}{σ:Sl}{η:List Ob}{d:Nat}{ty:TypeId}{pos:String}{after:Array Edge}{gd:Option (Nat×Bool)}{t:TypeId}{x y:Operand}
theorem zIo{o:Oper}{σ':Sl}{η':List Ob}(h:∀g a w,AbsG C g σ η a w->∃v w',(execOp a.eval o).run C.P w=.ok (.value v) w'/\Abs C σ' η' (a.put o.dst v) w')
  (hr:alex C false ops rest K σ' η'):zBJ C false ops o rest K σ η:=by
 intro Q hQ a w ⟨g,ha⟩ K' hK'
 obtain⟨v,w',h1,h2⟩:=h g a w ha
 unfold Oper.wp
 rw[h1]
 exact hK' _ _ (hr Q hQ _ _ h2)
theorem zRP{o:Oper}{σ':Sl}{η':List Ob}(h:∀g a w,AbsG C g σ η a w->∃w',(execOp a.eval o).run C.P w=.ok .skip w'/\Abs C σ' η' (a.put o.dst undef) w')
  (hr:alex C false ops rest K σ' η'):zBJ C false ops o rest K σ η:=by
 intro Q hQ a w ⟨g,ha⟩ K' hK'
 obtain⟨w',h1,h2⟩:=h g a w ha
 unfold Oper.wp
 rw[h1]
 exact hK' _ _ (hr Q hQ _ _ h2)
theorem zWA(et:Option TypeId){g:Gh}{a:Act}{w:World}(ha:AbsG C g σ η a w)(e:TypeId)(het:∀t,et=some t->t=e)(us:Array Value)(cs:List SV)(hd:Nat.blt d C.N=true)(hro:C.ro<=η.length)(hl:us.size=cs.length)(h1:∀u∈us,u.oneCell'=true)
  (hr:∀(j:Nat) (u:Value) (s:SV),us[j]?=some u->cs[j]?=some s->RepS g w u s) :
  Abs C ((d,.ptr η.length 0)::σ) (η++[.bx none et cs]) (a.put (some d) (.pointer (some ⟨w.heap.size,0,none⟩))) (w.alloc (.cells us e)):=by
 have hn:=ha.inv.n
 let g':Gh:={ g with blk:=upd g.blk g.n (some w.heap.size),n:=g.n+1 }
 have hold:∀id,id<g.n->g'.blk id=g.blk id/\g'.cap id=g.cap id/\g'.sz id=g.sz id:=fun id hid=>⟨by simp[g',upd,Nat.ne_of_lt hid],rfl,rfl⟩
 have hbn:g'.blk g.n=some w.heap.size:=by simp[g',upd]
 have kp:Keep g.St w g'.St (w.alloc (.cells us e)):=⟨fun _ _ h=>h,fun b o u hb hu=>(World.cell?_of_block (a:=⟨b,o,none⟩) (Below.heap_alloc w _ b (ha.inv.st b o hb))).trans hu,fun b hb=>Below.heap_alloc w _ b (ha.inv.st b 0 (hb 0))⟩
 have hab:=ha.newOb (g':=g') (w':=w.alloc (.cells us e)) (.bx none et cs) rfl rfl rfl sI (fun k hk=>Below.heap_alloc w _ k hk) rfl hold
  (fun id hid=>by
   have hne:id≠g.n:=by omega
   simp only[g',upd,if_neg hne]
   exact ha.inv.dead id oM) (fun b hb=>by rw[hbn]at hb;injection hb with hb;subst hb;simp) (fun _ _ h=>h) (fun _ _ h=>.inl h) (fun b o hb=>qAc (ha.inv.st b o hb) sI) (by rw[hn];exact hro)
  ⟨w.heap.size,e,us,hbn,_root_.Go.heap_alloc_new w _,hl,h1,fun j u s hu hs=>(hr j u s hu hs).ext kp hold (by simp[g']),fun o ho=>absurd (ha.inv.st _ o ho) oM,⟨fun _ h=>(by cases h),het⟩⟩
 exact⟨g',hab.put (d:=some d) hd ⟨by show η.length<g.n+1;omega,w.heap.size,by rw[<-hn];exact hbn,rfl⟩⟩
theorem zY3{g:Gh}{a:Act}{w:World}(ha:AbsG C g σ η a w)(e:TypeId)(us:Array Value)(cs:List SV)(hd:Nat.blt d C.N=true)(hro:C.ro<=η.length)(hl:us.size=cs.length)(h1:∀u∈us,u.oneCell'=true)
  (hr:∀(j:Nat) (u:Value) (s:SV),us[j]?=some u->cs[j]?=some s->RepS g w u s) :
  Abs C ((d,.ptr η.length 0)::σ) (η++[.box cs]) (a.put (some d) (.pointer (some ⟨w.heap.size,0,none⟩))) (w.alloc (.cells us e)) :=
 zWA none ha e (fun _ h=>(by cases h)) us cs hd hro hl h1 hr
theorem aBox{s:SV}{cs:List SV}(hx:oval σ x=s)(hc:zHA s=some cs)(hd:Nat.blt d C.N=true)(hro:Nat.ble C.ro η.length=true)(h:alex C false ops rest K ((d,.ptr η.length 0)::σ) (η++[.box cs]) ):
  zBJ C false ops ⟨some d,.box t x,ty,pos,after,gd⟩ rest K σ η:=by
 refine zIo (fun g a w ha=>?_) h
 have hr:=ha.eval x
 rw[hx]at hr
 obtain⟨h1,h2,h3⟩:=hr.cells hc
 exact⟨_,_,by simp[execOp,Instr.box,newVar,newRow],zY3 ha t (a.eval x).cells cs hd (qAM hro) h1 h2 h3⟩
theorem aBoA{s:SV}{cs:List SV}(h:alex C false ops rest K ((d,.ptr η.length 0)::σ) (η++[.box cs]) )(hx:oval σ x=s:=by exact rfl)(hc:zHA s=some cs:=by exact rfl)(hd:Nat.blt d C.N=true:=by exact rfl)(hro:Nat.ble C.ro η.length=true:=by exact rfl): zBJ C false ops ⟨some d,.box t x,ty,pos,after,gd⟩ rest K σ η:=aBox hx hc hd hro h
def zBv(P:Program)(t:TypeId): Option (List Value) :=
 match P.info? t with
 |some i=>match i.zero with
  |some z=>match z.cells.all (·.oneCell')with
   |true=>some z.cells.toList
   |false=>none
  |none=>none
 |none=>none
theorem zA4{zs:List Value}(hz:zBv C.P t=some zs)(hd:Nat.blt d C.N=true)(hro:Nat.ble C.ro η.length=true)(h:alex C false ops rest K ((d,.ptr η.length 0)::σ) (η++[.box (zs.map cst)])):
  zBJ C false ops ⟨some d,.alloc t,ty,pos,after,gd⟩ rest K σ η:=by
 refine zIo (fun g a w ha=>?_) h
 unfold zBv at hz
 split at hz
 ·rename_i i hi
  split at hz
  ·rename_i z hzz
   split at hz
   ·rename_i hall
    injection hz with hz
    subst hz
    refine⟨_,_,?_,zY3 ha t z.cells _ hd (qAM hro) sI (qBX.1 hall) (fun j u s hu hs=>?_)⟩
    ·simp[execOp,Instr.alloc,zeroValue,typeInfo,hi,hzz,newVar,newRow]
    ·rw[qAJ]at hs
     rw[<-qAz]at hu
     rw[hu]at hs
     simp at hs;subst hs;exact RepS.cst g w u
   ·cases hz
  ·cases hz
 ·cases hz
theorem aAlA{zs:List Value}(h:alex C false ops rest K ((d,.ptr η.length 0)::σ) (η++[.box (zs.map cst)]))(hz:zBv C.P t=some zs:=by with_reducible first|exact zA2|exact zEu|exact zXs|exact zIC|exact zP2|exact zZG|exact zXr|exact zDU|exact zBS|exact zBp|exact zCM|exact zCO|exact zYa)(hd:Nat.blt d C.N=true:=by exact rfl)(hro:Nat.ble C.ro η.length=true:=by exact rfl): zBJ C false ops ⟨some d,.alloc t,ty,pos,after,gd⟩ rest K σ η:=zA4 hz hd hro h
variable {P:Program}{dst:Option Nat}
theorem zAI{f off id o:Nat}(hx:oval σ x=.ptr id o)(hf:zA7 P t f=some off): Ylds P η σ ⟨dst,.fieldAddr t x f,ty,pos,after,gd⟩ (.ptr id (o+off)):=by
 refine Ylds.same fun g w a hi h=>?_
 have h1:=h x sO;rw[hx]at h1
 obtain⟨hid,b,hb,hv⟩:=h1
 unfold zA7 at hf
 split at hf
 ·rename_i fs hfs
  split at hf
  ·rename_i fl hfl
   split at hf
   ·rename_i i hi'
    split at hf
    ·cases hf
    ·rename_i hne
     injection hf with hf
     subst hf
     refine⟨.pointer (some ⟨b,o+fl.offset,none⟩),?_,hid,b,hb,rfl⟩
     simp[execOp,hv,Instr.fieldAt,run_underlying hfs,hfl,Instr.sureAddr,fieldPlace,sizeOf,typeInfo,hi',hne,Addr.add_lit]
   ·cases hf
  ·cases hf
 ·cases hf
theorem zAG{id o n:Nat}{kb:Option Nat}{et:Option TypeId}{cs:List SV}{s:SV}(hx:oval σ x=.ptr id o)(ht:zBh P t=some (false,n))(ho:η[id]?=some (.bx kb et cs))(hs:cs[o]?=some s): Ylds P η σ ⟨dst,.load t x,ty,pos,after,gd⟩ s:=by
 refine Ylds.same fun g w a hi h=>?_
 have h1:=h x sO;rw[hx]at h1
 obtain⟨hid,b,hb,hv⟩:=h1
 obtain⟨b',e,us,h2,h3,h4,h5,h6,h7,_⟩:=hi.ob id _ ho
 rw[hb]at h2;injection h2 with h2;subst h2
 have hlt:o<us.size:=by rw[h4];exact(qAA.1 hs).1
 refine⟨us[o],?_,h6 o _ _ (qAP hlt) hs⟩
 have hc:w.cell? ⟨b,o,none⟩=some us[o]:=by rw[cell_of_row w b o us e (0,0) h3];exact qAP hlt
 simp[execOp,hv,Instr.loadAt,Instr.sureAddr,loadVar,(zCb ht w).1,hc]
def toDs: List SV->Option (List D)
 |[]=>some []
 | .d d::r=>match toDs r with
  |some ds=>some (d::ds)
  |none=>none
 | .nil::r=>match toDs r with
  |some ds=>some (.slice []::ds)
  |none=>none
 |_::_=>none
theorem zMd{g:Gh}{w:World}: ∀{cs:List SV} {ds:List D},toDs cs=some ds->cs.length=ds.length/\∀(j:Nat) (u:Value) (s:SV) (d:D),cs[j]?=some s->ds[j]?=some d->RepS g w u s->RepD g.St w u d
 |[],ds,h=>by simp[toDs]at h;subst h;exact⟨rfl,fun j u s d hs=>by simp at hs⟩
 |s::r,ds,h=>by
  have nilRep:∀{v:Value},RepS g w v .nil->RepD g.St w v (.slice []):=by
   intro v hv
   change v=_ at hv
   subst hv
   exact .slice none 0 0 0 [] [] rfl (qAN _) (qAO _) sI rfl sI sI sI
  cases s with
  |d d0 =>
   simp only[toDs]at h
   split at h
   ·rename_i ds' hds
    injection h with h;subst h
    obtain⟨h1,h2⟩:=zMd (g:=g) (w:=w) hds
    refine⟨by simp[h1],fun j u s d hs hd hr=>?_⟩
    match j with
    |0=>simp at hs hd;subst hs;subst hd;exact hr
    |j+1=>exact h2 j u s d (by simpa using hs) (by simpa using hd) hr
   ·cases h
  |nil =>
   simp only[toDs]at h
   split at h
   ·rename_i ds' hds
    injection h with h;subst h
    obtain⟨h1,h2⟩:=zMd (g:=g) (w:=w) hds
    refine⟨by simp[h1],fun j u s d hs hd hr=>?_⟩
    match j with
    |0=>simp at hs hd;subst hs;subst hd;exact nilRep hr
    |j+1=>exact h2 j u s d (by simpa using hs) (by simpa using hd) hr
   ·cases h
  |_=>simp[toDs]at h
theorem zAY{id o n:Nat}{kb:Option Nat}{et:Option TypeId}{cs:List SV}{ds:List D}(hx:oval σ x=.ptr id o)(ht:zBh P t=some (true,n))(ho:η[id]?=some (.bx kb et cs))(hl:Nat.ble (o+n) cs.length=true)(hs:toDs ((cs.drop o).take n)=some ds): Ylds P η σ ⟨dst,.load t x,ty,pos,after,gd⟩ (.d (.agg ds)):=by
 have hl:=qAM hl
 refine Ylds.same fun g w a hi h=>?_
 have h1:=h x sO;rw[hx]at h1
 obtain⟨hid,b,hb,hv⟩:=h1
 obtain⟨b',e,us,h2,h3,h4,h5,h6,h7,_⟩:=hi.ob id _ ho
 rw[hb]at h2;injection h2 with h2;subst h2
 have hrun:=run_loadCells_list (P:=P) w ⟨b,o,none⟩ ((us.toList.drop o).take n) (fun j v hj=>by
  rw[qAd]at hj
  split at hj
  ·rw[Addr.add_lit,cell_of_row w b _ us e (0,0) h3]
   simpa using hj
  ·cases hj)
 have hlen:((us.toList.drop o).take n).length=n:=by rw[qAU,qAg,qAV];omega
 rw[hlen]at hrun
 obtain⟨e1,e2⟩:=zMd (g:=g) (w:=w) hs
 have hcl:((cs.drop o).take n).length=n:=by rw[qAU,qAg];omega
 refine⟨.agg ((us.toList.drop o).take n).toArray,?_,.agg _ _ oM (fun u hm=>h5 u (Array.mem_toList_iff.1 (qBV (qA3 hm)))) (fun j u d hj hd=>?_)⟩
 ·simp only[execOp,hv,Instr.loadAt,Instr.sureAddr,loadVar,Sem.run_bind,Sem.run_pure,Result.andThen_ok,(zCb ht w).1,(zCb ht w).2,if_true,hrun]
 ·have hjl:j<n:=by
   have:=(qAA.1 hj).1;omega
  have hsj:((cs.drop o).take n)[j]?=some (((cs.drop o).take n)[j]' oM):=qAB oM
  refine e2 j u _ d hsj hd (h6 (o+j) u _ ?_ ?_)
  ·rw[qAd,if_pos hjl]at hj;simpa using hj
  ·rw[<-hsj,qAd,if_pos hjl];simp
theorem zAq{id o n:Nat}{kb:Option Nat}{et:Option TypeId}{b0:Bool}{cs vs:List SV}{s:SV}(hx:oval σ x=.ptr id o)(hy:oval σ y=s)(hv:zHA s=some vs)(ht:zBh C.P t=some (b0,n))(ho:η[id]?=some (.bx kb et cs))(hn:Nat.beq vs.length n=true)(hl:Nat.ble (o+n) cs.length=true)(hro:Nat.ble C.ro id=true)
  (h:alex C false ops rest K σ (η.set id (.bx kb et (cs.take o++vs++cs.drop (o+n))))):zBJ C false ops ⟨none,.store t x y,ty,pos,after,gd⟩ rest K σ η:=by
 have hl:=qAM hl
 have hn:=qAX hn
 refine zRP (fun g a w ha=>?_) h
 have hp:=ha.eval x;rw[hx]at hp
 have hr:=ha.eval y;rw[hy]at hr
 obtain⟨hid,b,hb,hpv⟩:=hp
 obtain⟨b',e,us,h2,h3,h4,h5,h6,h7,h8⟩:=ha.inv.ob id _ ho
 rw[hb]at h2;injection h2 with h2;subst h2
 obtain⟨c1,c2,c3⟩:=hr.cells hv
 have hst:=run_storeCells_at C.P b o e (a.eval y).cells.toList 0 us w h3 (by rw[qAV];omega) (fun v hm=>c2 v (by simpa using hm))
 simp only[qBI]at hst
 refine⟨_,?_,g,ha.setBox ho h8 hb (qAM hro) h3 h7 (us':=(us.toList.take o++(a.eval y).cells.toList++us.toList.drop (o+(a.eval y).cells.toList.length)).toArray) ?_ ?_ ?_⟩
 ·simp only[execOp,hpv,Instr.storeAt,Instr.sureAddr,storeVar,Sem.run_bind,Sem.run_pure,Result.andThen_ok,(zCb ht w).2,c1,hn,ne_eq,not_true,if_false,hst]
 ·simp;omega
 ·intro u hu
  simp only[List.mem_toArray,qAm]at hu
  rcases hu with(hu|hu)|hu
  ·exact h5 u (by simpa using qA3 hu)
  ·exact c2 u pAI
  ·exact h5 u (by simpa using qBV hu)
 ·intro j u s' hu hs
  have hcl:(a.eval y).cells.toList.length=vs.length:=by rw[qAV];exact c1
  simp only[qBe]at hu
  rw[hcl,hn]at hu
  rcases qAF j o with hj|hj
  ·rw[qAY,qAG pAJ,qAd,if_pos hj]at hu hs
   exact h6 j u s' pAI hs
  ·rw[qAY,qAD pAJ]at hu hs
   have e1:(us.toList.take o).length=o:=by rw[qAU,qAV];omega
   have e2:(cs.take o).length=o:=by rw[qAU];omega
   rw[e1]at hu;rw[e2]at hs
   rcases qAF (j-o) n with hj2|hj2
   ·rw[qAG oM]at hu hs
    exact c3 (j-o) u s' pAI hs
   ·rw[qAD oM]at hu hs
    rw[hcl,hn]at hu;rw[hn]at hs
    simp only[qBC]at hu hs
    exact h6 (o+n+(j-o-n)) u s' pAI hs
theorem aStA{id o n:Nat}{kb:Option Nat}{et:Option TypeId}{b0:Bool}{cs vs:List SV}{s:SV}(h:alex C false ops rest K σ (η.set id (.bx kb et (cs.take o++vs++cs.drop (o+n)))))(hx:oval σ x=.ptr id o:=by exact rfl)(hy:oval σ y=s:=by exact rfl)(hv:zHA s=some vs:=by exact rfl)(ht:zBh C.P t=some (b0,n):=by with_reducible first|exact zAa|exact zAh|exact zGs|exact zCK|exact zRU|exact zEj|exact zGU|exact zRT|exact zDO|exact zA8|exact zBi|exact zAd|exact zAS|exact zDw|exact zFb|exact zB1|exact zAx|exact zBs|exact zAf|exact zNp)(ho:η[id]?=some (.bx kb et cs):=by exact rfl)(hn:Nat.beq vs.length n=true:=by exact rfl)(hl:Nat.ble (o+n) cs.length=true:=by exact rfl)(hro:Nat.ble C.ro id=true:=by exact rfl): zBJ C false ops ⟨none,.store t x y,ty,pos,after,gd⟩ rest K σ η:=zAq hx hy hv ht ho hn hl hro h
end
theorem zAr{η:List Ob}{s:SV}{d:D}(h:s=.d d): Co η s d:=by rw[h];rfl
theorem RepD.open_slice{St:Stab}{w:World}{v:Value}{xs:List D}(h:RepD St w v (.slice xs)){sz:Nat}(hf:∀x∈xs,x.flat.length=sz):
  ∃(a:Option Addr) (cap:Nat) (us:List Value),v=.slice a xs.length cap/\xs.length<=cap/\cap<=maxLen/\us.length=xs.length*sz/\(∀u∈us,u.oneCell'=true)/\
   (0<xs.length->∃ad,a=some ad/\∀(j:Nat) (u:Value),us[j]?=some u->Cell St w ad j u)/\∀(j:Nat) (u:Value) (d:D),us[j]?=some u->(zC2 xs)[j]?=some d->RepD St w u d:=by
 cases h with
 |slice a len cap sz' _ us hlen hcap hm hsz hus h1 hcell hr =>
  subst hlen
  exact⟨a,cap,us,rfl,hcap,hm,by rw[hus,zCQ hf],h1,hcell,hr⟩
section
variable {C:Ctx}{ops:Array Oper}{rest:List Oper}{K:Sl->List Ob->Prop}{σ:Sl}{η:List Ob}{d:Nat}{ty:TypeId}{pos:String}{after:Array Edge}{gd:Option (Nat×Bool)}{t:TypeId}{x y:Operand}
theorem AbsG.newBuf{g:Gh}{a:Act}{w w':World}(ha:AbsG C g σ η a w)(mu:Bool)(e:TypeId)(sz cap:Nat)(us:Array Value)(xs:List D)
  (os:w'.os=w.os) (tape:w'.tape=w.tape) (output:w'.output=w.output) (size:w'.heap.size=w.heap.size+1) (heap:∀k,k<w.heap.size->w'.heap[k]?=w.heap[k]?) (hB:w'.heap[w.heap.size]?=some (.cells us e (0,0)))
  (hro:C.ro<=η.length) (hf:∀x∈xs,x.flat.length=sz) (hc:xs.length<=cap) (hm:cap<=maxLen) (hus:us.size=cap*sz)
  (h1:∀(j:Nat) (u:Value),j<xs.length*sz->us[j]?=some u->u.oneCell'=true) (hr:∀(j:Nat) (u:Value) (d:D),us[j]?=some u->(zC2 xs)[j]?=some d->RepD g.St w u d) :
  AbsG C { St:=fun b o=>g.St b o\/(b=w.heap.size/\mu=false/\o<xs.length*sz),blk:=upd g.blk g.n (some w.heap.size),cap:=upd g.cap g.n cap,sz:=upd g.sz g.n sz,n:=g.n+1 } σ (η++[.buf mu e sz xs]) a w':=by
 have hn:=ha.inv.n
 refine ha.newOb (.buf mu e sz xs) os tape output oM heap rfl (fun id hid=>?_) (fun id hid=>?_) (fun b hb=>?_) (fun _ _ h=>.inl h) (fun b o hb=>?_) (fun b o hb=>?_) (by rw[hn];exact hro) ⟨?_,hf,?_,?_,.inr ⟨w.heap.size,us,?_,hB,?_,h1,fun j u d hu hd=>?_,fun o=>⟨fun ho=>?_,fun ho=>.inr ⟨rfl,ho⟩⟩⟩⟩
 ·simp[upd,Nat.ne_of_lt hid]
 ·have hne:id≠g.n:=by omega
  simp only[upd,if_neg hne]
  exact ha.inv.dead id oM
 ·simp[upd]at hb;omega
 ·rcases hb with hb|⟨hb,_⟩
  ·exact .inl hb
  ·exact .inr oM
 ·rcases hb with hb|⟨hb,_⟩
  ·have:=ha.inv.st b o hb;omega
  ·omega
 ·simp[upd]
 ·simpa[upd]using hm
 ·simpa[upd]using hc
 ·simp[upd]
 ·simpa[upd]using hus
 ·exact(hr j u d hu hd).keep ⟨fun _ _ h=>.inl h,fun b o u hb hu=>(World.cell?_of_block (a:=⟨b,o,none⟩) (heap b (ha.inv.st b o hb))).trans hu,fun b hb=>heap b (ha.inv.st b 0 (hb 0))⟩
 ·rcases ho with ho|⟨_,ho⟩
  ·exact absurd (ha.inv.st _ o ho) oM
  ·exact ho
def zDZ(P:Program)(t:TypeId): Option Nat :=
 match zCB P t with
 |some e=>(P.info? e).map (·.bytes)
 |none=>none
def okc: D->Bool
 | .agg _=>true
 | .val u=>u.oneCell'
 | .slice _=>true
 | .tup _=>false
 | .ref _=>true
 | .clo _ _=>true
 | .tsl _=>true
 | .ifc _ _=>true
theorem zKV{d:D}(h:okc d=true): zHA (.d d)=some (d.flat.map SV.d):=by
 cases d with
 |agg cs=>rfl
 |val u=>change u.oneCell'=true at h;simp[zHA,one,h,D.flat]
 |slice xs=>rfl
 |tup ds=>cases h
 |ref cs=>rfl
 |clo f ds=>rfl
 |tsl xs=>rfl
 |ifc t d=>rfl
theorem RepDs.cells{g:Gh}{w:World}{sz:Nat}: ∀(vs:List Value) (ds:List D),RepDs g.St w vs ds->(∀d∈ds,d.flat.length=sz)->ds.all okc=true->(∀v∈vs,v.cells.size=sz/\∀u∈v.cells,u.oneCell'=true)/\
  ∀(j:Nat) (u:Value) (d:D),(vs.flatMap fun v=>v.cells.toList)[j]?=some u->(zC2 ds)[j]?=some d->RepD g.St w u d
 |[],[],_,_,_=>⟨by simp,by simp⟩
 |[],_::_,h,_,_=>h.elim
 |_::_,[],h,_,_=>h.elim
 |v::vs,d0::ds,h,hf,hok=>by
  obtain⟨h1,h2⟩:=h
  simp only[qBn,qAR]at hok
  obtain⟨i1,i2⟩:=RepDs.cells vs ds h2 (fun d hd=>hf d (by simp[hd])) hok.2
  have hd0:=hf d0 sI
  obtain⟨c1,c2,c3⟩:=RepS.cells (g:=g) (w:=w) (s:=.d d0) h1 (zKV hok.1)
  rw[qAE]at c1
  refine⟨fun v' hv'=>?_,fun j u d' hu hd'=>?_⟩
  ·rcases qAq.1 hv' with rfl|hv'
   ·exact⟨by omega,c2⟩
   ·exact i1 v' hv'
  ·have e1:v.cells.toList.length=sz:=by rw[qAV];omega
   simp only[qBM,zC2]at hu hd'
   rcases qAF j sz with hj|hj
   ·rw[qAG oM]at hu hd'
    exact c3 j u (.d d') pAI (by rw[qAJ,hd'];rfl)
   ·rw[qAD oM]at hu hd'
    rw[e1]at hu;rw[hd0]at hd'
    exact i2 _ u d' hu hd'
theorem zFx{sz:Nat}: ∀(vs:List Value),(∀v∈vs,v.cells.size=sz)->(vs.flatMap fun v=>v.cells.toList).length=vs.length*sz
 |[],_=>by simp
 |v::vs,h=>by
  have h1:=h v sI
  rw[qBM,qAH,zFx vs (fun v hv=>h v (by simp[hv])),qAV,h1,qAK,qA8];omega
theorem aLit{sz e n:Nat}{xs:List Operand}{ds:List D}(he:zCB C.P t=some e)(hs:zBU C.P t=some sz)(hz:(zBv C.P e).isSome=true)(hp:Nat.blt 0 sz=true)(hb:Nat.ble (n*sz) 16777216=true)
  (hl:xs.length=n) (hc:CoL η σ xs ds) (hf:∀d∈ds,d.flat.length=sz) (hok:ds.all okc=true) (hd:Nat.blt d C.N=true) (hro:Nat.ble C.ro η.length=true) {parts:Array (Nat×Operand)} (hparts:parts=((xs.zipIdx 0).map fun x=>(x.2,x.1)).toArray)
  (h:alex C false ops rest K ((d,.buf η.length ds.length)::σ) (η++[.buf false e sz ds])) :
  zBJ C false ops ⟨some d,.buildSlice t n parts,ty,pos,after,gd⟩ rest K σ η:=by
 have hp:0<sz:=by simpa using hp
 have hb:=qAM hb
 subst hparts
 refine zIo (fun g a w ha=>?_) h
 obtain⟨e',i,hu,hi,hsz⟩:=zB4 hs
 have:e'=e:=by have:=zCw he;rw[hu]at this;injection this with this;injection this
 subst this
 have hrep:=CoL.rep (a:=a) ha.inv xs ds (fun x _=>ha.eval x) hc
 have hlen:=hrep.len
 rw[qAE]at hlen
 obtain⟨i1,i2⟩:=RepDs.cells _ ds hrep hf hok
 have hfl:=zFx (sz:=sz) (xs.map a.eval) (fun v hv=>(i1 v hv).1)
 rw[qAE,hl]at hfl
 let us:=((xs.map a.eval).flatMap fun v=>v.cells.toList).toArray
 have hus:us.size=n*sz:=by simpa[us]using hfl
 have hpe:((((xs.zipIdx 0).map fun x=>(x.2,x.1)).toArray).map fun (p:Nat×Operand)=>(p.1,a.eval p.2)).toList=(((xs.map a.eval).zipIdx 0).map fun x=>(x.2,x.1)):=by
  simp[List.zipIdx_map,List.map_map,Function.comp_def]
 have hrun:(Instr.buildSlice t n ((((xs.zipIdx 0).map fun x=>(x.2,x.1)).toArray).map fun (p:Nat×Operand)=>(p.1,a.eval p.2))).run C.P w=.ok (.slice (some ⟨w.heap.size,0,none⟩) n n) (w.alloc (.cells us e')):=by
  have hzz:∃z,i.zero=some z:=by
   unfold zBv at hz;rw[hi]at hz
   cases hq:i.zero with
   |none=>simp[hq]at hz
   |some z=>exact⟨z,rfl⟩
  obtain⟨z,hzz⟩:=hzz
  by_cases h0:n=0
  ·subst h0
   have hx:xs=[]:=qAf hl
   subst hx
   simp[Instr.buildSlice,run_underlying hu,sizeOf,typeInfo,hi,newRow,Instr.fill,us,Array.range_zero']
  ·have hne:¬n*i.size=0:=by rw[hsz];intro h;rcases Nat.mul_eq_zero.1 h with h|h <;> omega
   have hfw:=Great.fill_whole hp (xs.map a.eval) ((Array.range (n*i.size)).map (z.cells[· % z.cells.size]!)) (fun v hv=>(i1 v hv).1) (by simp[hl,hsz])
   exact run_buildSlice w t e' n _ us i z hu hi hzz (by rw[hsz];omega) hne (by rw[hpe];rw[<-hsz]at hfw;exact hfw)
 have hbuf:=ha.newBuf (w':=w.alloc (.cells us e')) false e' sz n us ds rfl rfl rfl sI (fun k hk=>Below.heap_alloc w _ k hk) (_root_.Go.heap_alloc_new w _) (qAM hro) hf oM (by simp only[maxLen];have:n*1<=n*sz:=Nat.mul_le_mul_left _ hp;omega) hus
  (fun j u _ hu=>by
   have hm:=Array.mem_of_getElem? hu
   simp only[us,List.mem_toArray,List.mem_flatMap]at hm
   obtain⟨v,hv,hm⟩:=hm
   exact(i1 v hv).2 u (by simpa using hm))
  (fun j u d hu hd=>i2 j u d (by simpa[us]using hu) hd)
 refine⟨_,_,by simp only[execOp,Sem.run_bind];rw[hrun];rfl,_,hbuf.put (d:=some d) hd ?_⟩
 refine⟨?_,?_⟩
 ·show η.length<g.n+1;have:=ha.inv.n;omega
 ·have hn:=ha.inv.n
  show _=Value.slice ((upd g.blk g.n (some w.heap.size) η.length).map _) _ (upd g.cap g.n n η.length)
  rw[<-hn,<-hlen,hl];simp[upd]
def SV.kill(id:Nat): SV->SV
 | .buf i n=>match Nat.beq i id with
  |true=>.top
  |false=>.buf i n
 | .bsl i k n=>match Nat.beq i id with
  |true=>.top
  |false=>.bsl i k n
 | .bptr i k o=>match Nat.beq i id with
  |true=>.top
  |false=>.bptr i k o
 | .ptr i o=>match Nat.beq i id with
  |true=>.top
  |false=>.ptr i o
 | .clo f ids=>match ids.any (Nat.beq id)with
  |true=>.top
  |false=>.clo f ids
 | .mp i=>match Nat.beq i id with
  |true=>.top
  |false=>.mp i
 | .pair a b=>.pair (a.kill id) (b.kill id)
 |s=>s
def zLW(id:Nat): Sl->Sl
 |[]=>[]
 |(k,s)::r=>(k,s.kill id)::zLW id r
def Ob.kill(id:Nat): Ob->Ob
 | .bx k et cs=>.bx k et (cs.map (SV.kill id))
 | .miter m since seen st=>match Nat.beq m id with
  |true=>.gone
  |false=>.miter m since seen st
 |o=>o
def zFR(id:Nat): List Ob->List Ob
 |[]=>[]
 |o::r=>o.kill id::zFR id r
theorem zIn(id:Nat): ∀(σ:Sl) (t:Nat),get (zLW id σ) t=(get σ t).kill id
 |[],t=>rfl
 |(k,s)::r,t=>by
  unfold zLW
  rw[zBl,zBl]
  split
  ·rfl
  ·exact zIn id r t
theorem zIf(id:Nat): ∀(η:List Ob),(zFR id η).length=η.length
 |[]=>rfl
 |_::r=>by simp[zFR,zIf id r]
theorem zOP(id:Nat): ∀(η:List Ob) (i:Nat),(zFR id η)[i]?=(η[i]?).map (Ob.kill id)
 |[],i=>by simp[zFR]
 |o::r,0=>by simp[zFR]
 |o::r,i+1=>by simp[zFR,zOP id r i]
theorem RepS.other{g g':Gh}{w w':World}{v:Value}{s:SV}{id:Nat}(k:Keep g.St w g'.St w')(h:∀i,i≠id->g'.blk i=g.blk i/\g'.cap i=g.cap i/\g'.sz i=g.sz i)(hn:g'.n=g.n)
  (r:RepS g w v s):RepS g' w' v (s.kill id):=by
 have nb:∀{i:Nat},Nat.beq i id=false->i≠id:=fun he e=>by subst e;simp at he
 induction s generalizing v with
 |d d=>exact RepD.keep k r
 |nil=>exact r
 |ptr i off =>
  cases he:Nat.beq i id with
  |true=>simp only[SV.kill,he];trivial
  |false =>
   simp only[SV.kill,he]
   obtain⟨h1,b,h2,h3⟩:=r
   exact⟨by omega,b,by rw[(h i (nb he)).1];exact h2,h3⟩
 |rptr cs =>
  obtain⟨ad,us,h1,h2,h3,h4,h5⟩:=r
  exact⟨ad,us,h1,h2,h3,fun j u hu=>(h4 j u hu).keep k,fun j u d hu hd=>(h5 j u d hu hd).keep k⟩
 |bptr i j off =>
  cases he:Nat.beq i id with
  |true=>simp only[SV.kill,he];trivial
  |false =>
   simp only[SV.kill,he]
   obtain⟨h1,b,h2,h3⟩:=r
   exact⟨by omega,b,by rw[(h i (nb he)).1];exact h2,by rw[(h i (nb he)).2.2];exact h3⟩
 |buf i n =>
  cases he:Nat.beq i id with
  |true=>simp only[SV.kill,he];trivial
  |false =>
   simp only[SV.kill,he]
   obtain⟨h1,h2⟩:=r
   exact⟨by omega,by rw[(h i (nb he)).1,(h i (nb he)).2.1];exact h2⟩
 |bsl i k n =>
  cases he:Nat.beq i id with
  |true=>simp only[SV.kill,he];trivial
  |false =>
   simp only[SV.kill,he]
   obtain⟨h1,h2⟩:=r
   exact⟨by omega,by rw[(h i (nb he)).1,(h i (nb he)).2.1,(h i (nb he)).2.2];exact h2⟩
 |clo f ids =>
  cases he:ids.any (Nat.beq id)with
  |true=>simp only[SV.kill,he];trivial
  |false =>
   simp only[SV.kill,he]
   obtain⟨vs,h1,h2,h3⟩:=r
   refine⟨vs,h1,h2,fun j i u hj hu=>?_⟩
   obtain⟨h4,b,h5,h6⟩:=h3 j i u hj hu
   have hne:i≠id:=fun e=>by
    subst e
    have:=qBT.1 he i (qAC hj)
    simp at this
   exact⟨by omega,b,by rw[(h i hne).1];exact h5,h6⟩
 |mp i =>
  cases he:Nat.beq i id with
  |true=>simp only[SV.kill,he];trivial
  |false =>
   simp only[SV.kill,he]
   obtain⟨h1,b,h2,h3⟩:=r
   exact⟨by omega,b,by rw[(h i (nb he)).1];exact h2,h3⟩
 |pair a b ha hb=>obtain⟨u1,u2,h1,h2,h3⟩:=r;exact⟨u1,u2,h1,ha h2,hb h3⟩
 |p φ=>exact r
 |top=>trivial
theorem zGL{P:Program}{t by':Nat}(h:zDZ P t=some by'): ∃e i,P.underlying t=some (.slice e)/\P.info? e=some i/\i.bytes=by':=by
 unfold zDZ at h
 split at h
 ·rename_i e he
  cases hi:P.info? e with
  |none=>simp[hi]at h
  |some i=>simp[hi]at h;exact⟨e,i,zCw he,hi,h⟩
 ·cases h
theorem zMf{P:Program}(w:World)(t ty e:TypeId)(i:TypeInfo)(z:Value)(ht:P.underlying t=some (.slice e))(hi:P.info? e=some i)(hz:i.zero=some z)(hzs:z.cells.size=i.size)
  (ob:Option Nat) (n cap:Nat) (us:Array Value) (hob:(ob=none/\cap=0/\n=0)\/∃b,ob=some b/\w.heap[b]?=some (.cells us e (0,0))/\us.size=cap*i.size/\n<=cap)
  (src:Option Addr) (m c:Nat) (news:List Value) (hl:news.length=m*i.size) (hs:0<m->∃ad,src=some ad/\∀(j:Nat) (u:Value),news[j]?=some u->w.cell? (ad.add j)=some u) (h1:∀u∈news,u.oneCell'=true)
  (hbytes:(n+m)*i.bytes<=140737488355328) (h63:n+m<=maxLen) (hcm:cap<=maxLen) :
  ∃(ob':Option Nat) (cap':Nat) (w':World),(Builtin.append_ #[t,t] ty #[.slice (ob.map (⟨·,0,none⟩)) n cap,.slice src m c]).run P w=.ok (.slice (ob'.map (⟨·,0,none⟩)) (n+m) cap') w'/\
   n+m<=cap'/\cap'<=maxLen/\w'.os=w.os/\w'.tape=w.tape/\w'.output=w.output/\w.heap.size<=w'.heap.size/\
   ((ob'=none/\cap'=0/\n+m=0/\ob=none/\w'=w)\/∃(b':Nat) (us':Array Value),ob'=some b'/\w'.heap[b']?=some (.cells us' e (0,0))/\us'.size=cap'*i.size/\b'<w'.heap.size/\
    (∀j,j<n*i.size->us'[j]?=us[j]?)/\(∀(j:Nat),j<m*i.size->us'[n*i.size+j]?=news[j]?)/\
    ((ob=some b'/\∀k,k≠b'->w'.heap[k]?=w.heap[k]?)\/(w.heap.size<=b'/\∀k,k<w.heap.size->w'.heap[k]?=w.heap[k]?))):=by
 have h63':n+m<=9223372036854775807:=by simp only[maxLen]at h63;omega
 by_cases hm:m=0
 ·subst hm
  have hn:news=[]:=qAf (by simpa using hl)
  subst hn
  rcases hob with⟨rfl,rfl,rfl⟩|⟨b,rfl,hh,hsz,hnc⟩
  ·refine⟨none,0,w,?_,by omega,by simp[maxLen],rfl,rfl,rfl,qAN _,.inl ⟨rfl,rfl,rfl,rfl,rfl⟩⟩
   cases src <;> simp[Builtin.append_,run_underlying ht,sizeOf,typeInfo,hi,Builtin.lenOf,Builtin.firstCells,loadCells,loadCellsFrom]
  ·refine⟨some b,cap,w,?_,by omega,hcm,rfl,rfl,rfl,qAN _,.inr ⟨b,us,rfl,hh,hsz,(qAn.1 hh).1,fun _ _=>rfl,fun j hj=>by omega,.inl ⟨rfl,fun _ _=>rfl⟩⟩⟩
   cases src <;> simp[Builtin.append_,run_underlying ht,sizeOf,typeInfo,hi,Builtin.lenOf,Builtin.firstCells,loadCells,loadCellsFrom,hnc,storeCells]
 ·obtain⟨ad,rfl,hnews⟩:=hs oM
  rcases hob with⟨rfl,rfl,rfl⟩|⟨b,rfl,hh,hsz,hnc⟩
  ·have hr:=run_append_nil (P:=P) w t ty e i z ht hi hz ad m c news hl hnews oM oM (by rw[qAS]at hbytes;omega)
   have hge:=grownCap_ge w m 0 e
   refine⟨some w.heap.size,grownCap w m 0 e,w.drew.alloc (.cells (news.toArray++Builtin.zeroCells z.cells (grownCap w m 0 e-m)) e),by simpa using hr,by omega,grownCap_le_maxLen w m 0 e oM,rfl,rfl,rfl,by simp,.inr ⟨w.heap.size,_,rfl,_root_.Go.heap_alloc_new w.drew _,?_,by simp,fun j hj=>by omega,fun j hj=>?_,.inr ⟨qAN _,fun k hk=>Below.heap_alloc w.drew _ k hk⟩⟩⟩
   ·simp only[Array.size_append,qBN,size_zeroCells,hzs,hl]
    rw[<-qA8];congr 1;omega
   ·rw[qAl pAJ]
    simp
  ·by_cases hroom:n+m<=cap
   ·have hmul:(n+m)*i.size<=cap*i.size:=qAy _ hroom
    rw[qA8]at hmul
    have hr:=run_append_room (P:=P) w t ty e i ht hi b n cap us hh ad m c news hl hnews h1 hroom oM
    have hub:b<w.heap.size:=(qAn.1 hh).1
    refine⟨some b,cap,_,hr,hroom,hcm,rfl,rfl,rfl,by simp,.inr ⟨b,_,rfl,setRow_heap w b us _ e (0,0) hh,?_,by simpa using hub,fun j hj=>?_,fun j hj=>?_,.inl ⟨rfl,fun k hk=>setRow_other w b k _ hk⟩⟩⟩
    ·simp only[qBN,qAH,qAU,qAg,qAV];omega
    ·simp only[qBe]
     rw[qAY,qAG pAJ,qAd,if_pos hj];simp
    ·simp only[qBe]
     have e1:(us.toList.take (n*i.size)).length=n*i.size:=by rw[qAU,qAV];omega
     rw[qAY,qAD oM,e1,Nat.add_sub_cancel_left,qAG oM]
   ·have hnsz:n*i.size<=us.size:=by rw[hsz];exact qAy _ hnc
    have holds:∀j v,(us.toList.take (n*i.size))[j]?=some v->w.cell? ((⟨b,0,none⟩:Addr).add j)=some v:=by
     intro j v hj
     rw[qAd]at hj
     split at hj
     ·rw[Addr.add_lit,qAS,cell_of_row w b j us e (0,0) hh];simpa using hj
     ·cases hj
    have hr:=run_append_grow (P:=P) w t ty e i z ht hi hz ⟨b,0,none⟩ n cap (us.toList.take (n*i.size)) (by rw[qAU,qAV];omega) holds ad m c news hl hnews oM oM (growslice_fits oM hbytes)
    have hge:=grownCap_ge w (n+m) cap e
    have e1:(us.toList.take (n*i.size)).length=n*i.size:=by rw[qAU,qAV];omega
    refine⟨some w.heap.size,grownCap w (n+m) cap e,_,hr,hge,grownCap_le_maxLen w (n+m) cap e h63,rfl,rfl,rfl,by simp,.inr ⟨w.heap.size,_,rfl,_root_.Go.heap_alloc_new w.drew _,?_,by simp,fun j hj=>?_,fun j hj=>?_,.inr ⟨qAN _,fun k hk=>Below.heap_alloc w.drew _ k hk⟩⟩⟩
    ·simp only[Array.size_append,qBN,size_zeroCells,hzs,hl,e1]
     rw[<-qA8,<-qA8];congr 1;omega
    ·rw[Array.append_assoc,qAl pAJ]
     simp[hj]
    ·rw[Array.append_assoc,Array.getElem?_append_right pAJ]
     rw[qBN,e1,Nat.add_sub_cancel_left,qAl pAJ]
     simp
end
section
variable {C:Ctx}{ops:Array Oper}{rest:List Oper}{K:Sl->List Ob->Prop}{σ:Sl}{η:List Ob}{d:Nat}{ty:TypeId}{pos:String}{after:Array Edge}{gd:Option (Nat×Bool)}{t:TypeId}{x y:Operand}
theorem AbsG.setBuf{g:Gh}{a:Act}{w w':World}(h:AbsG C g σ η a w){id e sz cap':Nat}{mu mu':Bool}{xs xs':List D}{ob':Option Nat}{St':Stab}(hid:η[id]?=some (.buf mu e sz xs))(hro:C.ro<=id)
  (os:w'.os=w.os) (tape:w'.tape=w.tape) (output:w'.output=w.output) (size:w.heap.size<=w'.heap.size) (heap:∀k,k<w.heap.size->g.blk id≠some k->w'.heap[k]?=w.heap[k]?)
  (hnew:∀b,ob'=some b->(g.blk id=some b\/w.heap.size<=b)/\b<w'.heap.size) (kp:Keep g.St w St' w') (new:∀b o,St' b o->g.St b o\/ob'=some b) (lt:∀b o,St' b o->b<w'.heap.size)
  (ok:ObOk { g with St:=St',blk:=upd g.blk id ob',cap:=upd g.cap id cap' } w' id (.buf mu' e sz xs')) :
  AbsG C { g with St:=St',blk:=upd g.blk id ob',cap:=upd g.cap id cap' } (zLW id σ) ((zFR id η).set id (.buf mu' e sz xs')) a w':=by
 have hidl:id<η.length:=(qAA.1 hid).1
 have hn:=h.inv.n
 have hsame:∀i,i≠id->({ g with St:=St',blk:=upd g.blk id ob',cap:=upd g.cap id cap' }:Gh).blk i=g.blk i/\({ g with St:=St',blk:=upd g.blk id ob',cap:=upd g.cap id cap' }:Gh).cap i=g.cap i/\({ g with St:=St',blk:=upd g.blk id ob',cap:=upd g.cap id cap' }:Gh).sz i=g.sz i :=
  fun i hi=>⟨by simp[upd,hi],by simp[upd,hi],rfl⟩
 have hblk:∀i b,upd g.blk id ob' i=some b->(i≠id/\g.blk i=some b)\/(i=id/\(g.blk id=some b\/w.heap.size<=b)/\b<w'.heap.size):=by
  intro i b hb
  unfold upd at hb
  split at hb
  ·rename_i e;exact .inr ⟨e,hnew b hb⟩
  ·rename_i e;exact .inl ⟨e,hb⟩
 have ro:∀{v:Value} {s:SV},RepS g w v s->RepS { g with St:=St',blk:=upd g.blk id ob',cap:=upd g.cap id cap' } w' v (s.kill id):=fun r=>r.other kp hsame rfl
 have hother:∀i b,i≠id->g.blk i=some b->w'.heap[b]?=w.heap[b]?/\∀o,St' b o↔g.St b o:=by
  intro i b hi hb
  have hbl:=h.inv.lt i b hb
  refine⟨heap b hbl (fun e=>hi (h.inv.inj i id b hb e)),fun o=>⟨fun ho=>?_,kp.sub b o⟩⟩
  rcases new b o ho with h1|h1
  ·exact h1
  ·rcases(hnew b h1).1 with h2|h2
   ·exact absurd (h.inv.inj i id b hb h2) hi
   ·omega
 refine⟨h.defers,h.size,⟨by rw[qAv,zIf];exact hn,fun i b hb=>?_,fun i hi=>?_,fun i j b hi hj=>?_,fun i o ho=>?_,lt,h.inv.gl.keep kp⟩,os.trans h.os,tape.trans h.tape,output.trans h.output,qAx h.wsize size,fun k hk hx=>?_,h.keep.trans kp,fun b o hb=>?_,fun i b hb hr=>?_,fun t=>?_⟩
 ·rcases hblk i b hb with⟨_,h1⟩|⟨_,_,h1⟩
  ·exact qAc (h.inv.lt i b h1) size
  ·exact h1
 ·have hne:i≠id:=by have:g.n<=i:=hi;omega
  show upd g.blk id ob' i=none
  simp only[upd,if_neg hne]
  exact h.inv.dead i hi
 ·rcases hblk i b hi with⟨h1,h2⟩|⟨h1,h2,_⟩ <;> rcases hblk j b hj with⟨h3,h4⟩|⟨h3,h4,_⟩
  ·exact h.inv.inj i j b h2 h4
  ·rcases h4 with h4|h4
   ·exact absurd (h.inv.inj i id b h2 h4) h1
   ·exact absurd (h.inv.lt i b h2) oM
  ·rcases h2 with h2|h2
   ·exact absurd (h.inv.inj j id b h4 h2) h3
   ·exact absurd (h.inv.lt j b h4) oM
  ·omega
 ·rw[qAh]at ho
  split at ho
  ·rename_i e;subst e
   rw[if_pos (by rw[zIf];exact hidl)]at ho
   injection ho with ho;subst ho;exact ok
  ·rename_i e
   have e:i≠id:=fun h=>e h.symm
   rw[zOP]at ho
   cases hq:η[i]? with
   |none=>simp[hq]at ho
   |some o0 =>
    simp[hq]at ho;subst ho
    have:=h.inv.ob i o0 hq
    cases o0 with
    |bx kb et cs =>
     obtain⟨b,e1,us,h1,h2,h3,h4,h5,h6,h7⟩:=this
     obtain⟨k1,k2⟩:=hother i b e h1
     refine⟨b,e1,us,by rw[(hsame i e).1];exact h1,k1.trans h2,by simpa using h3,h4,fun j u s hu hs=>?_,fun o ho=>h6 o ((k2 o).1 ho),h7⟩
     rw[qAJ]at hs
     cases hc:cs[j]? with
     |none=>simp[hc]at hs
     |some s0=>simp[hc]at hs;subst hs;exact ro (h5 j u s0 hu hc)
    |buf mu2 e2 sz2 ys =>
     obtain⟨h1,h2,h3,h4,h5⟩:=this
     refine⟨h1,h2,by rw[(hsame i e).2.1];exact h3,by rw[(hsame i e).2.1];exact h4,?_⟩
     rcases h5 with h5|⟨b,us,h5,h6,h7,h8,h9,h10⟩
     ·exact .inl (by rw[(hsame i e).1,(hsame i e).2.1];exact h5)
     ·obtain⟨k1,k2⟩:=hother i b e h5
      exact .inr ⟨b,us,by rw[(hsame i e).1];exact h5,k1.trans h6,by rw[(hsame i e).2.1];exact h7,h8,fun j u d hu hd=>(h9 j u d hu hd).keep kp,fun o=>(k2 o).trans (h10 o)⟩
    |iter s pos =>
     obtain⟨b,h1,h2,h3⟩:=this
     obtain⟨k1,k2⟩:=hother i b e h1
     exact⟨b,by rw[(hsame i e).1];exact h1,k1.trans h2,fun o ho=>h3 o ((k2 o).1 ho)⟩
    |mapq q kb l =>
     obtain⟨b,es,ck,h1,h2,h3,h4,h5,h6⟩:=this
     obtain⟨k1,k2⟩:=hother i b e h1
     exact⟨b,es,ck,by rw[(hsame i e).1];exact h1,k1.trans h2,h3,fun j e p he hp=>⟨(h4 j e p he hp).1,(h4 j e p he hp).2.keep kp⟩,fun o ho=>h5 o ((k2 o).1 ho),h6⟩
    |miter m since seen st =>
     simp only[Ob.kill]
     cases hm:Nat.beq m id with
     |true=>trivial
     |false =>
      have hne:m≠id:=fun e=>by subst e;simp at hm
      obtain⟨b,bm,h1,h2,h3,h4,h5⟩:=this
      obtain⟨k1,k2⟩:=hother i b e h1
      exact⟨b,bm,by rw[(hsame i e).1];exact h1,h2,by rw[(hsame m hne).1];exact h3,k1.trans h4,fun o ho=>h5 o ((k2 o).1 ho)⟩
    |gone=>trivial
 ·rw[heap k (qAc hk h.wsize) (fun e=>?_)]
  ·exact h.heap k hk hx
  ·rcases h.own id k e hro with h1|h1
   ·omega
   ·exact hx h1
 ·rcases new b o hb with h1|h1
  ·exact h.new b o h1
  ·rcases(hnew b h1).1 with h2|h2
   ·exact(h.own id b h2 hro).elim (fun h=>.inr (.inl h)) (fun h=>.inr (.inr h))
   ·exact .inr (.inl (qAx h.wsize h2))
 ·rcases hblk i b hb with⟨h1,h2⟩|⟨h1,h2,_⟩
  ·exact h.own i b h2 hr
  ·subst h1
   rcases h2 with h2|h2
   ·exact h.own i b h2 hr
   ·exact .inl (qAx h.wsize h2)
 ·rw[zIn];exact ro (h.rep t)
def zDf(P:Program)(e:TypeId): Option Nat:=(zBv P e).map List.length
theorem zHE{P:Program}{e sz:Nat}{i:TypeInfo}(hi:P.info? e=some i)(h:zDf P e=some sz): ∃z,i.zero=some z/\z.cells.size=sz:=by
 unfold zDf zBv at h
 rw[hi]at h
 cases hq:i.zero with
 |none=>simp[hq]at h
 |some z =>
  simp only[hq]at h
  split at h
  ·simp at h;exact⟨z,rfl,h⟩
  ·cases h
theorem zD4(xs ys:List D): zC2 (xs++ys)=zC2 xs++zC2 ys:=by simp[zC2]
def zcj(P:Program)(ts:Array TypeId)(ty:TypeId)(e sz:Nat)(w:World)(ob:Option Nat)(n cap:Nat)(us:Array Value)(v:Value)(m:Nat)(news:List Value): Prop :=
 ∃(ob':Option Nat) (cap':Nat) (w':World),(Builtin.append_ ts ty #[.slice (ob.map (⟨·,0,none⟩)) n cap,v]).run P w=.ok (.slice (ob'.map (⟨·,0,none⟩)) (n+m) cap') w'/\
   n+m<=cap'/\cap'<=maxLen/\w'.os=w.os/\w'.tape=w.tape/\w'.output=w.output/\w.heap.size<=w'.heap.size/\
   ((ob'=none/\cap'=0/\n+m=0/\ob=none/\w'=w)\/∃(b':Nat) (us':Array Value),ob'=some b'/\w'.heap[b']?=some (.cells us' e (0,0))/\us'.size=cap'*sz/\b'<w'.heap.size/\
    (∀j,j<n*sz->us'[j]?=us[j]?)/\(∀(j:Nat),j<m*sz->us'[n*sz+j]?=news[j]?)/\
    ((ob=some b'/\∀k,k≠b'->w'.heap[k]?=w.heap[k]?)\/(w.heap.size<=b'/\∀k,k<w.heap.size->w'.heap[k]?=w.heap[k]?)))
theorem zdG{id n e' sz:Nat}{mu:Bool}{xs ys:List D}{ts:Array TypeId}(hx:oval σ x=.buf id n)(ho:η[id]?=some (.buf mu e' sz xs))(hn:n<=xs.length)(hmu:mu=false->n=xs.length)
  (hf:∀d∈ys,d.flat.length=sz) (hd:Nat.blt d C.N=true) (hro:Nat.ble C.ro id=true)
  (hR:∀(g:Gh) (a:Act) (w:World) (us:Array Value),AbsG C g σ η a w->g.cap id<=maxLen->((g.blk id=none/\g.cap id=0/\n=0)\/∃b,g.blk id=some b/\w.heap[b]?=some (.cells us e' (0,0))/\us.size=g.cap id*sz/\n<=g.cap id)->
   ∃news:List Value,news.length=ys.length*sz/\(∀u∈news,u.oneCell'=true)/\(∀(j:Nat) (u:Value) (d:D),news[j]?=some u->(zC2 ys)[j]?=some d->RepD g.St w u d)/\zcj C.P ts ty e' sz w (g.blk id) n (g.cap id) us (a.eval y) ys.length news)
  (h:alex C false ops rest K ((d,.buf id (n+ys.length))::zLW id σ) ((zFR id η).set id (.buf mu e' sz (xs.take n++ys)))) :
  zBJ C false ops ⟨some d,.call ⟨.builtin .append, #[x,y],ts⟩,ty,pos,after,gd⟩ rest K σ η:=by
 refine zIo (fun g a w ha=>?_) h
 have hro:=qAM hro
 have hxr:=ha.eval x;rw[hx]at hxr
 obtain⟨hidn,hxv⟩:=hxr
 obtain⟨o1,o2,o3,o4,o5⟩:=ha.inv.ob id _ ho
 have hgsz:g.sz id=sz:=o1
 have hob:(g.blk id=none/\g.cap id=0/\n=0)\/∃b us,g.blk id=some b/\w.heap[b]?=some (.cells us e' (0,0))/\us.size=g.cap id*sz/\
    (∀(j:Nat) (u:Value),j<xs.length*sz->us[j]?=some u->u.oneCell'=true)/\(∀(j:Nat) (u:Value) (d:D),us[j]?=some u->(zC2 xs)[j]?=some d->RepD g.St w u d)/\∀o,g.St b o↔(mu=false/\o<xs.length*sz):=by
  rcases o5 with⟨h1,h2⟩|⟨b,us,h1,h2,h3,h4,h5,h6⟩
  ·exact .inl ⟨h1,h2,by omega⟩
  ·exact .inr ⟨b,us,h1,h2,h3,h4,h5,h6⟩
 have hus0:∃us:Array Value,(g.blk id=none/\g.cap id=0/\n=0)\/∃b,g.blk id=some b/\w.heap[b]?=some (.cells us e' (0,0))/\us.size=g.cap id*sz/\n<=g.cap id:=by
  rcases hob with h1|⟨b,us,h1,h2,h3,_⟩
  ·exact⟨#[],.inl h1⟩
  ·exact⟨us,.inr ⟨b,h1,h2,h3,by omega⟩⟩
 obtain⟨us,hus⟩:=hus0
 obtain⟨news,hnl,hn1,hnrep,ob',cap',w',hrun,hcap,hcm,wos,wtape,wout,wsz,hres⟩:=hR g a w us ha o3 hus
 let St':Stab:=fun b o=>g.St b o\/(ob'=some b/\mu=false/\o<(n+ys.length)*sz)
 have hflx:(zC2 (xs.take n)).length=n*sz:=by rw[zCQ (fun d hd=>o2 d (qA3 hd)),qAU];congr 1;omega
 have hfly:(zC2 ys).length=ys.length*sz:=zCQ hf
 have hheap:∀k,k<w.heap.size->g.blk id≠some k->w'.heap[k]?=w.heap[k]?:=by
  intro k hk hne
  rcases hres with⟨_,_,_,_,rfl⟩|⟨b',us',rfl,_,_,_,_,_,h1|h1⟩
  ·rfl
  ·exact h1.2 k (fun e=>hne (by rw[h1.1,e]))
  ·exact h1.2 k hk
 have hkeep:Keep g.St w St' w':=by
  refine⟨fun _ _ h=>.inl h,fun b o u hb hu=>?_,fun b hb=>hheap b (ha.inv.st b 0 (hb 0)) fun hbb=>?_⟩
  rotate_left
  ·rcases hob with⟨h1,_⟩|⟨b0,us0,h1,h2,h3,h4,h5,h6⟩
   ·rw[h1]at hbb;cases hbb
   ·rw[h1]at hbb;injection hbb with hbb;subst hbb
    have:=(h6 _).1 (hb (xs.length*sz));omega
  by_cases hbb:g.blk id=some b
  ·rcases hob with⟨h1,_⟩|⟨b0,us0,h1,h2,h3,h4,h5,h6⟩
   ·rw[h1]at hbb;cases hbb
   ·rw[h1]at hbb;injection hbb with hbb;subst hbb
    have hus':us=us0:=by
     rcases hus with⟨q,_⟩|⟨b2,q1,q2,_⟩
     ·rw[h1]at q;cases q
     ·rw[h1]at q1;injection q1 with q1;subst q1;rw[h2]at q2;injection q2 with q2;injection q2 with q2;exact q2.symm
    subst hus'
    have hol:=(h6 o).1 hb
    have hnx:=hmu hol.1
    rw[cell_of_row w b0 o us e' (0,0) h2]at hu
    rcases hres with⟨_,_,_,q,_⟩|⟨b',us',rfl,q1,q2,q3,q4,q5,q6|q6⟩
    ·rw[h1]at q;cases q
    ·rw[h1]at q6;obtain⟨q6,_⟩:=q6;injection q6 with q6;subst q6
     rw[cell_of_row w' b0 o us' e' (0,0) q1,q4 o (by rw[hnx];exact hol.2)];exact hu
    ·rw[World.cell?_of_block (w:=w) (a:=⟨b0,o,none⟩) (q6.2 b0 (ha.inv.lt id b0 h1)),cell_of_row w b0 o us e' (0,0) h2];exact hu
  ·exact(World.cell?_of_block (w:=w) (a:=⟨b,o,none⟩) (hheap b (ha.inv.st b o hb) hbb)).trans hu
 have hab:=ha.setBuf (w':=w') (ob':=ob') (cap':=cap') (mu':=mu) (xs':=xs.take n++ys) (St':=St') ho hro wos wtape wout wsz hheap
  (fun b hb=>by
   rcases hres with⟨q,_⟩|⟨b',us',q0,q1,q2,q3,q4,q5,q6|q6⟩
   ·rw[q]at hb;cases hb
   ·rw[q0]at hb;injection hb with hb;subst hb;exact⟨.inl q6.1,q3⟩
   ·rw[q0]at hb;injection hb with hb;subst hb;exact⟨.inr q6.1,q3⟩) hkeep
  (fun b o hb=>hb.imp_right (·.1))
  (fun b o hb=>by
   rcases hb with hb|⟨hb,_⟩
   ·exact qAc (ha.inv.st b o hb) wsz
   ·rcases hres with⟨q,_⟩|⟨b',us',q0,q1,q2,q3,_⟩
    ·rw[q]at hb;cases hb
    ·rw[q0]at hb;injection hb with hb;subst hb;exact q3)
  ⟨hgsz,fun d hd=>by
    rcases qAm.1 hd with hd|hd
    ·exact o2 d (qA3 hd)
    ·exact hf d hd,by simpa[upd]using hcm,by simp[upd];omega,by
   rcases hres with⟨q,q1,q2,_⟩|⟨b',us',q0,q1,q2,q3,q4,q5,q6⟩
   ·exact .inl ⟨by simp[upd,q],by simp[upd,q1]⟩
   ·have hlen':(xs.take n++ys).length=n+ys.length:=by simp;omega
    have cellsOf:∀j u,j<(n+ys.length)*sz->us'[j]?=some u->u.oneCell'=true/\∀d,(zC2 (xs.take n++ys))[j]?=some d->RepD g.St w u d:=by
     intro j u hj hu
     rw[zD4]
     rcases qAF j (n*sz)with hj2|hj2
     ·rw[q4 j hj2]at hu
      rcases hob with⟨_,_,h0⟩|⟨b0,us0,h1,h2,h3,h4,h5,h6⟩
      ·subst h0;omega
      ·have hus':us=us0:=by
        rcases hus with⟨q,_⟩|⟨b2,q1,q2,_⟩
        ·rw[h1]at q;cases q
        ·rw[h1]at q1;injection q1 with q1;subst q1;rw[h2]at q2;injection q2 with q2;injection q2 with q2;exact q2.symm
       subst hus'
       refine⟨h4 j u (qAc hj2 (qAy _ hn)) hu,fun d hd=>h5 j u d hu ?_⟩
       rw[qAG (by rw[hflx];exact hj2),zFk o2,qAd,if_pos hj2]at hd
       exact hd
     ·obtain⟨j',rfl⟩:∃j',j=n*sz+j':=⟨j-n*sz,by omega⟩
      rw[qA8]at hj
      rw[q5 j' oM]at hu
      refine⟨hn1 u (qAC hu),fun d hd=>hnrep j' u d hu ?_⟩
      rw[qAD (by rw[hflx];omega),hflx,Nat.add_sub_cancel_left]at hd
      exact hd
    refine .inr ⟨b',us',by simp[upd,q0],q1,by simpa[upd]using q2,fun j u hj hu=>(cellsOf j u (by rw[<-hlen'];exact hj) hu).1,fun j u d hu hd=>?_,fun o=>⟨fun hb=>?_,fun hb=>.inr ⟨q0,hb.1,by rw[<-hlen'];exact hb.2⟩⟩⟩
    ·have hjl:j<(n+ys.length)*sz:=by
      have:=(qAA.1 hd).1
      rw[zD4,qAH,hflx,hfly,<-qA8]at this;exact this
     exact((cellsOf j u hjl hu).2 d hd).keep hkeep
    ·rw[hlen']
     rcases hb with hb|⟨_,hb⟩
     ·rcases q6 with q6|q6
      ·rcases hob with⟨h1,_⟩|⟨b0,us0,h1,h2,h3,h4,h5,h6⟩
       ·rw[q6.1]at h1;cases h1
       ·rw[q6.1]at h1;injection h1 with h1;subst h1
        obtain⟨r1,r2⟩:=(h6 o).1 hb
        refine⟨r1,?_⟩
        rw[<-hmu r1]at r2
        rw[qA8];omega
      ·exact absurd (ha.inv.st b' o hb) oM
     ·exact hb⟩
 refine⟨.slice (ob'.map (⟨·,0,none⟩)) (n+ys.length) cap',w',?_,_,hab.put (d:=some d) hd ⟨hidn,?_⟩⟩
 ·simp only[execOp,resolve,invoke,builtin,Sem.run_bind,Sem.run_pure,Result.andThen_ok,qA4,qA1,List.map_nil,hxv,hrun]
 ·show _=Value.slice ((upd g.blk id ob' id).map _) _ (upd g.cap id cap' id)
  simp[upd]
theorem zcN{id n m e sz by':Nat}{mu:Bool}{xs ys:List D}(hx:oval σ x=.buf id n)(ho:η[id]?=some (.buf mu e sz xs))(hn:n<=xs.length)(hmu:mu=false->n=xs.length)(hy:Co η (oval σ y) (.slice ys))(hm:m=ys.length)
  (he:zCB C.P t=some e) (hs:zBU C.P t=some sz) (hz:zDf C.P e=some sz) (hb:zDZ C.P t=some by') (hf:∀d∈ys,d.flat.length=sz) (hlen:(n+m)*by'<=140737488355328) (hlen2:n+m<=140737488355328) (hd:Nat.blt d C.N=true) (hro:Nat.ble C.ro id=true)
  (h:alex C false ops rest K ((d,.buf id (n+m))::zLW id σ) ((zFR id η).set id (.buf mu e sz (xs.take n++ys)))) :
  zBJ C false ops ⟨some d,.call ⟨.builtin .append, #[x,y], #[t,t]⟩,ty,pos,after,gd⟩ rest K σ η:=by
 subst hm
 obtain⟨e',i,hu,hi,hsz⟩:=zB4 hs
 have:e'=e:=by have:=zCw he;rw[hu]at this;injection this with this;injection this
 subst this
 have hby:i.bytes=by':=by
  obtain⟨e2,i2,h1,h2,h3⟩:=zGL hb
  rw[hu]at h1;injection h1 with h1;injection h1 with h1;subst h1
  rw[hi]at h2;injection h2 with h2;subst h2;exact h3
 obtain⟨z,hzz,hzs⟩:=zHE hi hz
 refine zdG hx ho hn hmu hf hd hro (fun g a w us ha hcm hus=>?_) h
 have hyr:=(hy.rep ha.inv (ha.eval y)).open_slice hf
 obtain⟨sa,sc,news,hyv,_,_,hnl,hn1,hncell,hnrep⟩:=hyr
 have hnews:0<ys.length->∃ad,sa=some ad/\∀(j:Nat) (u:Value),news[j]?=some u->w.cell? (ad.add j)=some u:=fun h0=>by
  obtain⟨ad,h1,h2⟩:=hncell h0
  exact⟨ad,h1,fun j u hj=>(h2 j u hj).2⟩
 have:=zMf w t ty e' i z hu hi hzz (by rw[hzs,hsz]) (g.blk id) n (g.cap id) us (by rw[hsz];exact hus) sa ys.length sc news (by rw[hnl,hsz]) hnews hn1 (by rw[hby];exact hlen) (by simp only[maxLen];omega) hcm
 rw[hsz]at this
 exact⟨news,hnl,hn1,hnrep,by rw[hyv];exact this⟩
theorem aApp{id n m e sz by':Nat}{mu:Bool}{xs ys:List D}(hx:oval σ x=.buf id n)(ho:η[id]?=some (.buf mu e sz xs))(hy:Co η (oval σ y) (.slice ys))(hn:n=xs.length)(hm:m=ys.length)
  (he:zCB C.P t=some e) (hs:zBU C.P t=some sz) (hz:zDf C.P e=some sz) (hb:zDZ C.P t=some by') (hd:Nat.blt d C.N=true) (hro:Nat.ble C.ro id=true) (hf:∀d∈ys,d.flat.length=sz) (hlen:(n+m)*by'<=140737488355328/\n+m<=140737488355328)
  (h:alex C false ops rest K ((d,.buf id (n+m))::zLW id σ) ((zFR id η).set id (.buf mu e sz (xs++ys)))) :
  zBJ C false ops ⟨some d,.call ⟨.builtin .append, #[x,y], #[t,t]⟩,ty,pos,after,gd⟩ rest K σ η :=
 zcN hx ho oM (fun _=>hn) hy hm he hs hz hb hf hlen.1 hlen.2 hd hro (by rw[hn,qBF,<-hn];exact h)
theorem aApA{id n m e sz by':Nat}{mu:Bool}{xs ys:List D}(hlen:(n+m)*by'<=140737488355328/\n+m<=140737488355328)(h:alex C false ops rest K ((d,.buf id (n+m))::zLW id σ) ((zFR id η).set id (.buf mu e sz (xs++ys))))(hx:oval σ x=.buf id n:=by exact rfl)(ho:η[id]?=some (.buf mu e sz xs):=by exact rfl)(hy:Co η (oval σ y) (.slice ys):=by first|exact zAr rfl|exact Co_bb rfl rfl rfl|exact Co_nn rfl)(hn:n=xs.length:=by first|exact rfl|exact sI)(hm:m=ys.length:=by exact rfl)(he:zCB C.P t=some e:=by with_reducible first|exact zBL|exact zCn)(hs:zBU C.P t=some sz:=by with_reducible first|exact zA6|exact zAe)(hz:zDf C.P e=some sz:=by with_reducible first|exact zDe|exact zHv)(hb:zDZ C.P t=some by':=by with_reducible first|exact zCx|exact zGM)(hd:Nat.blt d C.N=true:=by exact rfl)(hro:Nat.ble C.ro id=true:=by exact rfl)(hf:∀d∈ys,d.flat.length=sz:=by first|exact zCe (fun _=>rfl)|exact zDP rfl): zBJ C false ops ⟨some d,.call ⟨.builtin .append, #[x,y], #[t,t]⟩,ty,pos,after,gd⟩ rest K σ η:=aApp hx ho hy hn hm he hs hz hb hd hro hf hlen h
theorem zEd{Q:Exit->Sl->List Ob->Prop}{c:Code}(t:Nat)(mu:Bool)(e sz:Nat)(ht:get σ t=.nil)(hro:Nat.ble C.ro η.length=true)(h:awp C c Q ((t,.buf η.length 0)::σ) (η++[.buf mu e sz []])): awp C c Q σ η:=by
 intro R hR a w ⟨g,ha⟩
 refine h R hR a w ?_
 have hn:=ha.inv.n
 let g':Gh:={ g with blk:=upd g.blk g.n none,cap:=upd g.cap g.n 0,sz:=upd g.sz g.n sz,n:=g.n+1 }
 have hold:∀id,id<g.n->g'.blk id=g.blk id/\g'.cap id=g.cap id/\g'.sz id=g.sz id:=fun id hid=>by simp[g',upd,Nat.ne_of_lt hid]
 have hab:=ha.newOb (g':=g') (w':=w) (.buf mu e sz []) rfl rfl rfl (qAN _) (fun _ _=>rfl) rfl hold (fun id hid=>by
   have hne:id≠g.n:=by omega
   simp only[g',upd,if_neg hne]
   exact ha.inv.dead id oM) (fun b hb=>by simp[g',upd]at hb) (fun _ _ h=>h) (fun _ _ h=>.inl h) ha.inv.st (by rw[hn];exact qAM hro)
  ⟨by simp[g',upd],by simp,by simp[g',upd],by simp,.inl ⟨by simp[g',upd],by simp[g',upd]⟩⟩
 refine⟨g',{ hab with rep:=fun u=>?_ }⟩
 rw[zBl]
 split
 ·rename_i e;subst e
  have:=ha.rep t;rw[ht]at this
  refine⟨by show η.length<g.n+1;omega,?_⟩
  rw[this,<-hn];simp[g',upd]
 ·exact hab.rep u
theorem zHn{Q:Exit->Sl->List Ob->Prop}{c:Code}(id:Nat){mu:Bool}{e sz:Nat}{xs:List D}(ho:η[id]?=some (.buf mu e sz xs))(hro:Nat.ble C.ro id=true)(h:awp C c Q σ (η.set id (.buf false e sz xs))): awp C c Q σ η:=by
 intro R hR a w ⟨g,ha⟩
 refine h R hR a w ?_
 have hidl:id<η.length:=(qAA.1 ho).1
 have hro:=qAM hro
 obtain⟨o1,o2,o3,o4,o5⟩:=ha.inv.ob id _ ho
 let g':Gh:={ g with St:=fun b o=>g.St b o\/(g.blk id=some b/\o<xs.length*sz) }
 have kp:Keep g.St w g'.St w:=⟨fun _ _ h=>.inl h,fun _ _ _ _ h=>h,fun _ _=>rfl⟩
 have re:∀{v:Value} {s:SV},RepS g w v s->RepS g' w v s:=fun r=>r.ext kp (fun _ _=>⟨rfl,rfl,rfl⟩) (qAN _)
 have lt:∀b o,g'.St b o->b<w.heap.size:=fun b o hb=>by
  rcases hb with hb|⟨hb,_⟩
  ·exact ha.inv.st b o hb
  ·exact ha.inv.lt id b hb
 refine⟨g',ha.defers,ha.size,⟨by rw[qAv];exact ha.inv.n,ha.inv.lt,ha.inv.dead,ha.inv.inj,fun i o hi=>?_,lt,ha.inv.gl.keep kp⟩,ha.os,ha.tape,ha.output,ha.wsize,ha.heap,ha.keep.trans kp,fun b o hb=>?_,ha.own,fun t=>re (ha.rep t)⟩
 ·rw[qAh]at hi
  split at hi
  ·rename_i e;subst e
   try rw[if_pos hidl]at hi
   injection hi with hi;subst hi
   refine⟨o1,o2,o3,o4,?_⟩
   rcases o5 with o5|⟨b,us,h1,h2,h3,h4,h5,h6⟩
   ·exact .inl o5
   ·refine .inr ⟨b,us,h1,h2,h3,h4,fun j u d hu hd=>(h5 j u d hu hd).keep kp,fun o=>⟨fun hb=>?_,fun hb=>.inr ⟨h1,hb.2⟩⟩⟩
    rcases hb with hb|⟨_,hb⟩
    ·exact⟨rfl,((h6 o).1 hb).2⟩
    ·exact⟨rfl,hb⟩
  ·rename_i e
   refine(ha.inv.ob i o hi).ext kp (fun _ _=>⟨rfl,rfl,rfl⟩) (qAN _) (by rw[ha.inv.n];exact(qAA.1 hi).1) (fun b hb=>⟨rfl,fun o=>⟨fun ho=>?_,fun h=>.inl h⟩⟩)
   rcases ho with ho|⟨ho,_⟩
   ·exact ho
   ·exact absurd (ha.inv.inj i id b hb ho) (fun h=>e h.symm)
 ·rcases hb with hb|⟨hb,_⟩
  ·exact ha.new b o hb
  ·exact(ha.own id b hb hro).elim (fun h=>.inr (.inl h)) (fun h=>.inr (.inr h))
end
section
variable {P:Program}{η:List Ob}{σ:Sl}{dst:Option Nat}{ty:TypeId}{pos:String}{after:Array Edge}{gd:Option (Nat×Bool)}{t:TypeId}{x y z:Operand}
theorem zHf{sz:Nat}: ∀{xs:List D} (_:∀x∈xs,x.flat.length=sz) (n:Nat),zC2 (xs.drop n)=(zC2 xs).drop (n*sz)
 |[],_,n=>by simp[zC2]
 |x::r,h,0=>by simp[zC2]
 |x::r,h,n+1=>by
  have h1:=h x sI
  have ih:=zHf (sz:=sz) (xs:=r) (fun y hy=>h y (by simp[hy])) n
  simp only[zC2,List.drop_succ_cons,qBM]at ih ⊢
  rw[ih,List.drop_append]
  have e1:x.flat.drop ((n+1)*sz)=[]:=qAa (by rw[h1,qA8];omega)
  have e2:(n+1)*sz-x.flat.length=n*sz:=by rw[h1,qA8];omega
  rw[e1,e2,qA9]
theorem zcn{St:Stab}{w:World}{v:Value}{xs:List D}(h:RepD St w v (.slice xs)){sz l n:Nat}(hf:∀x∈xs,x.flat.length=sz)(hl:l<=n)(hn:n<=xs.length):
  ∃(a:Option Addr) (cap:Nat),v=.slice a xs.length cap/\xs.length<=cap/\RepD St w (.slice (if cap=l then a else a.map (·.add (l*sz))) (n-l) (cap-l)) (.slice ((xs.take n).drop l)):=by
 obtain⟨a,cap,us,rfl,hc,hm,hul,h1,hcell,hr⟩:=h.open_slice hf
 refine⟨a,cap,rfl,hc,?_⟩
 have hft:∀x∈xs.take n,x.flat.length=sz:=fun x hx=>hf x (qA3 hx)
 have hlen:((xs.take n).drop l).length=n-l:=by rw[qAg,qAU];omega
 have hmul:n*sz<=xs.length*sz:=qAy _ hn
 have hmul2:l*sz<=n*sz:=qAy _ hl
 have e3:(n-l)*sz=n*sz-l*sz:=Nat.sub_mul ..
 refine .slice _ _ _ sz _ ((us.take (n*sz)).drop (l*sz)) hlen.symm oM oM (fun x hx=>hft x (qBV hx)) ?_ (fun u hu=>h1 u (qA3 (qBV hu))) (fun h0=>?_) (fun j u d hu hd=>?_)
 ·rw[zHf hft,zFk hf,qAg,qAg,qAU,qAU,zCQ hf,hul]
 ·rw[hlen]at h0
  obtain⟨ad,rfl,hcc⟩:=hcell oM
  rw[if_neg oM]
  refine⟨ad.add (l*sz),rfl,fun j u hj=>?_⟩
  rw[zDT,qAd]at hj
  split at hj
  ·exact(hcc _ _ hj).shift
  ·cases hj
 ·rw[zHf hft,zFk hf]at hd
  rw[zDT,qAd]at hu hd
  split at hu
  ·rename_i hlt;rw[if_pos hlt]at hd;exact hr _ _ _ hu hd
  ·cases hu
theorem zKW{t e:TypeId}{i:TypeInfo}(hu:P.underlying t=some (.slice e))(hi:P.info? e=some i)(a:Option Addr)(len cap l h:Nat)(lo hi':Option Value)(hlo:(lo=none/\l=0)\/∃k,lo=some (.int k (l:Int)))(hhi:(hi'=none/\h=len)\/∃k,hi'=some (.int k (h:Int)))
  (h1:l<=h) (h2:h<=cap) (w:World):(Instr.sliceAt t (.slice a len cap) lo hi' none).run P w=.ok (.slice (if cap=l then a else a.map (·.add (l*i.size))) (h-l) (cap-l)) w:=by
 rcases hlo with⟨rfl,rfl⟩|⟨k,rfl⟩ <;> rcases hhi with⟨rfl,rfl⟩|⟨k',rfl⟩ <;>
  simp[Instr.sliceAt,Instr.slice,Instr.sliceBounds,Instr.sliceBound,run_underlying hu,sizeOf,typeInfo,hi,asIntOf,h1,h2,Int.ofNat_le]
variable {α:Type}{enc:α->D}{L:List α}
theorem zNP{sz l n:Nat}{lo hi:Option Operand}{xs:List D}(hc:Co η (oval σ x) (.slice xs))(hs:zBU P t=some sz)(hf:∀d∈xs,d.flat.length=sz)
  (hlo:(lo=none/\l=0)\/∃o k,lo=some o/\oval σ o=.d (.val (.int k (l:Int)))) (hhi:(hi=none/\n=xs.length)\/∃o k,hi=some o/\oval σ o=.d (.val (.int k (n:Int)))) (h1:l<=n) (h2:n<=xs.length) :
  Ylds P η σ ⟨dst,.slice t x lo hi none,ty,pos,after,gd⟩ (.d (.slice ((xs.take n).drop l))):=by
 obtain⟨e,i,hu,hi',hsz⟩:=zB4 hs
 refine Ylds.same fun g w a hi h=>?_
 have hr:=hc.rep hi (h x sO)
 obtain⟨b,cap,hv,hcap,hrep⟩:=zcn hr hf h1 h2
 refine⟨_,?_,hrep⟩
 simp only[execOp,hv,Sem.run_bind,Sem.run_pure,Option.map_none]
 rw[zKW hu hi' b xs.length cap l n _ _ ?_ ?_ h1 oM,hsz]
 ·rfl
 ·rcases hlo with⟨rfl,rfl⟩|⟨o,k,rfl,ho⟩
  ·exact .inl ⟨rfl,rfl⟩
  ·have:=h o sO;rw[ho]at this
   exact .inr ⟨k,by simp[RepD.val_eq this]⟩
 ·rcases hhi with⟨rfl,rfl⟩|⟨o,k,rfl,ho⟩
  ·exact .inl ⟨rfl,rfl⟩
  ·have:=h o sO;rw[ho]at this
   exact .inr ⟨k,by simp[RepD.val_eq this]⟩
theorem Y_sl{sz:Nat}{l n:Int}{k k':IntKind}(hc:Co η (oval σ x) (.slice (L.map enc)))(hs:zBU P t=some sz)(hlo:oval σ y=.d (.val (.int k l)))(hhi:oval σ z=.d (.val (.int k' n)))(hf:∀v,(enc v).flat.length=sz)
  (h:0<=l/\l<=n/\n<=(L.length:Int)):Ylds P η σ ⟨dst,.slice t x (some y) (some z) none,ty,pos,after,gd⟩ (.d (.slice (((L.take n.toNat).drop l.toNat).map enc))):=by
 have:=zNP (dst:=dst) (ty:=ty) (pos:=pos) (after:=after) (gd:=gd) (l:=l.toNat) (n:=n.toNat) (lo:=some y) (hi:=some z) hc hs (fun d hd=>by obtain⟨v,_,rfl⟩:=qAo.1 hd;exact hf v)
  (.inr ⟨y,k,rfl,by rw[hlo,qBj h.1]⟩) (.inr ⟨z,k',rfl,by rw[hhi,qBj oM]⟩) oM (by rw[qAE];omega)
 rwa [<-List.map_take,<-List.map_drop]at this
theorem zY6{sz:Nat}{l:Int}{k:IntKind}(hc:Co η (oval σ x) (.slice (L.map enc)))(hs:zBU P t=some sz)(hlo:oval σ y=.d (.val (.int k l)))(hf:∀v,(enc v).flat.length=sz)
  (h:0<=l/\l<=(L.length:Int)):Ylds P η σ ⟨dst,.slice t x (some y) none none,ty,pos,after,gd⟩ (.d (.slice ((L.drop l.toNat).map enc))):=by
 have:=zNP (dst:=dst) (ty:=ty) (pos:=pos) (after:=after) (gd:=gd) (l:=l.toNat) (n:=(L.map enc).length) (lo:=some y) (hi:=none) hc hs (fun d hd=>by obtain⟨v,_,rfl⟩:=qAo.1 hd;exact hf v)
  (.inr ⟨y,k,rfl,by rw[hlo,qBj h.1]⟩) (.inl ⟨rfl,rfl⟩) (by rw[qAE];omega) (qAN _)
 rwa [qBF,<-List.map_drop]at this
theorem zPH{sz:Nat}{n:Int}{k:IntKind}(hc:Co η (oval σ x) (.slice (L.map enc)))(hs:zBU P t=some sz)(hhi:oval σ z=.d (.val (.int k n)))(hf:∀v,(enc v).flat.length=sz)
  (h:0<=n/\n<=(L.length:Int)):Ylds P η σ ⟨dst,.slice t x none (some z) none,ty,pos,after,gd⟩ (.d (.slice ((L.take n.toNat).map enc))):=by
 have:=zNP (dst:=dst) (ty:=ty) (pos:=pos) (after:=after) (gd:=gd) (l:=0) (n:=n.toNat) (lo:=none) (hi:=some z) hc hs (fun d hd=>by obtain⟨v,_,rfl⟩:=qAo.1 hd;exact hf v)
  (.inl ⟨rfl,rfl⟩) (.inr ⟨z,k,rfl,by rw[hhi,qBj h.1]⟩) oM (by rw[qAE];omega)
 rwa [qAp,<-List.map_take]at this
theorem zY7{id m:Nat}{n:Int}{k:IntKind}(hx:oval σ x=.buf id m)(hs:(zBU P t).isSome=true)(hhi:oval σ z=.d (.val (.int k n)))(h:0<=n/\n<=(m:Int))(hcap:∃mu e sz xs,η[id]?=some (.buf mu e sz xs)/\m<=xs.length):
  Ylds P η σ ⟨dst,.slice t x none (some z) none,ty,pos,after,gd⟩ (.buf id n.toNat):=by
 obtain⟨sz,hs⟩:=Option.isSome_iff_exists.1 hs
 obtain⟨e,i,hu,hi',hsz⟩:=zB4 hs
 obtain⟨mu,e2,sz2,xs,ho,hm⟩:=hcap
 refine Ylds.same fun g w a hi hop=>?_
 have hr:=hop x sO;rw[hx]at hr
 obtain⟨h1,h2⟩:=hr
 have hz:=hop z sO;rw[hhi]at hz
 obtain⟨_,_,_,hcl,_⟩:=hi.ob id _ ho
 refine⟨.slice ((g.blk id).map (⟨·,0,none⟩)) n.toNat (g.cap id),?_,h1,rfl⟩
 simp only[execOp,h2,Sem.run_bind,Sem.run_pure]
 have:=zKW hu hi' ((g.blk id).map (⟨·,0,none⟩)) m (g.cap id) 0 n.toNat none (some (a.eval z)) (.inl ⟨rfl,rfl⟩) (.inr ⟨k,by rw[RepD.val_eq hz,qBj h.1]⟩) (qAO _) oM w
 simp only[Option.map_none,qBG,this,Result.andThen_ok,Nat.sub_zero]
 congr 3
 split
 ·rfl
 ·cases g.blk id <;> simp[Addr.add_lit]
theorem zPJ{id m sz e:Nat}{mu:Bool}{n:Int}{k:IntKind}{xs:List D}(hx:oval σ x=.buf id m)(hy:oval σ y=.d (.val (.int k n)))(ho:η[id]?=some (.buf mu e sz xs))(hs:zBU P t=some sz)(h:0<=n/\n<(m:Int))(hm:m<=xs.length):
  Ylds P η σ ⟨dst,.indexAddr t x y,ty,pos,after,gd⟩ (.bptr id n.toNat 0):=by
 obtain⟨e',i,hu,hi',hsz⟩:=zB4 hs
 refine Ylds.same fun g w a hi hop=>?_
 have hr:=hop x sO;rw[hx]at hr
 obtain⟨h1,h2⟩:=hr
 have hz:=hop y sO;rw[hy]at hz
 obtain⟨hgs,_,_,hcl,hb⟩:=hi.ob id _ ho
 have hbb:∃b,g.blk id=some b:=by
  rcases hb with⟨_,h0⟩|⟨b,_,hb,_⟩
  ·omega
  ·exact⟨b,hb⟩
 obtain⟨b,hb⟩:=hbb
 refine⟨.pointer (some ⟨b,n.toNat*sz,none⟩),?_,h1,b,hb,by rw[hgs];rfl⟩
 simp[execOp,h2,RepD.val_eq hz,hb,Instr.indexAt,asIntOf,run_underlying hu,h.1,h.2,sizeOf,typeInfo,hi',hsz,Addr.add_lit]
theorem zNQ{id i o n e sz:Nat}{mu:Bool}{xs:List D}{d c:D}(hx:oval σ x=.bptr id i o)(ht:zBh P t=some (false,n))(ho:η[id]?=some (.buf mu e sz xs))(hd:xs[i]?=some d)(hc:d.flat[o]?=some c): Ylds P η σ ⟨dst,.load t x,ty,pos,after,gd⟩ (.d c):=by
 refine Ylds.same fun g w a hi h=>?_
 have h1:=h x sO;rw[hx]at h1
 obtain⟨hid,b,hb,hv⟩:=h1
 obtain⟨hgs,hf,_,hcl,hbo⟩:=hi.ob id _ ho
 have hil:i<xs.length:=(qAA.1 hd).1
 have hol:o<sz:=by rw[<-hf d (qAC hd)];exact(qAA.1 hc).1
 have hmul:(i+1)*sz<=xs.length*sz:=qAy _ hil
 rw[qA8]at hmul
 rcases hbo with⟨h0,_⟩|⟨b',us,h2,h3,h4,h5,h6,_⟩
 ·rw[hb]at h0;cases h0
 ·rw[hb]at h2;injection h2 with h2;subst h2
  have hmul2:xs.length*sz<=g.cap id*sz:=qAy _ hcl
  have hlt:i*sz+o<us.size:=by omega
  refine⟨us[i*sz+o],?_,h6 _ _ _ (qAP hlt) ((zG4 hf hd hol).trans hc)⟩
  have hcell:w.cell? ⟨b,i*sz+o,none⟩=some us[i*sz+o]:=by rw[cell_of_row w b _ us e (0,0) h3];exact qAP hlt
  simp[execOp,hv,hgs,Instr.loadAt,Instr.sureAddr,loadVar,(zCb ht w).1,hcell]
def zKf: List SV->Option (List Nat)
 |[]=>some []
 | .ptr i o::r=>match o with
  |0=>match zKf r with
   |some l=>some (i::l)
   |none=>none
  |_+1=>none
 |_::_=>none
theorem zLt{g:Gh}{w:World}{f:Operand->Value}: ∀{xs:List Operand} {ss:List SV} {ids:List Nat},ss.length=xs.length->(∀(j:Nat) (x:Operand) (s:SV),xs[j]?=some x->ss[j]?=some s->RepS g w (f x) s)->zKf ss=some ids->
  ids.length=xs.length/\∀(j id:Nat) (x:Operand),ids[j]?=some id->xs[j]?=some x->id<g.n/\∃b,g.blk id=some b/\f x=.pointer (some ⟨b,0,none⟩)
 |[],[],ids,_,_,h=>by simp[zKf]at h;subst h;exact⟨rfl,fun j id x h=>by simp at h⟩
 |x::xs,s::ss,ids,hl,hr,h=>by
  have h0:=hr 0 x s rfl rfl
  cases s with
  |ptr i o =>
   cases o with
   |succ o=>simp[zKf]at h
   |zero =>
    simp only[zKf]at h
    split at h
    ·rename_i l hl'
     injection h with h;subst h
     obtain⟨e1,e2⟩:=zLt (g:=g) (w:=w) (f:=f) (by simpa using hl) (fun j x s hx hs=>hr (j+1) x s (by simpa using hx) (by simpa using hs)) hl'
     refine⟨by simp[e1],fun j id x' hj hx=>?_⟩
     match j with
     |0=>simp at hj hx;subst hj;subst hx;exact h0
     |j+1=>exact e2 j id x' pAK (by simpa using hx)
    ·cases h
  |_=>simp[zKf]at h
 |[],_::_,_,hl,_,_=>by simp at hl
 |_::_,[],_,hl,_,_=>by simp at hl
theorem zQI{f:FuncId}{xs:List Operand}{ids:List Nat}(h:zKf (xs.map (oval σ))=some ids): Ylds P η σ ⟨dst,.makeFunc (.func f) #[] xs.toArray,ty,pos,after,gd⟩ (.clo f ids):=by
 refine Ylds.same fun g w a hi hop=>?_
 obtain⟨e1,e2⟩:=zLt (g:=g) (w:=w) (f:=a.eval) (xs:=xs) sI (fun j x s hx hs=>by
  rw[qAJ,hx]at hs;simp at hs;subst hs
  exact hop x (by simp[Op.operands,List.mem_of_getElem? hx])) h
 refine⟨.func (.func f) #[] (xs.map a.eval).toArray,?_,xs.map a.eval,rfl,by simp[e1],fun j id u hj hu=>?_⟩
 ·simp[execOp,Instr.makeFunc]
 ·rw[qAJ]at hu
  cases hx:xs[j]? with
  |none=>simp[hx]at hu
  |some x=>simp[hx]at hu;subst hu;exact e2 j id x hj hx
def zdX(St:Stab)(w:World)(bl:List Nat)(bs:List (List D)): Prop :=
 bl.length=bs.length/\bl.Nodup/\∀(j b:Nat) (cs:List D),bl[j]?=some b->bs[j]?=some cs->∃e us,w.heap[b]?=some (.cells us e (0,0))/\us.size=cs.length/\(∀u∈us,u.oneCell'=true)/\
  (∀(j:Nat) (u:Value) (d:D),us[j]?=some u->cs[j]?=some d->RepD St w u d)/\∀o,¬St b o
def zBo(P:Program)(f:FuncId)(ds:List D)(bs:List (List D))(res:D): Prop :=
 ∀(St:Stab) (w:World) (vs:List Value) (bl:List Nat),(∀b o,St b o->b<w.heap.size)->Glob St w->RepDs St w vs ds->zdX St w bl bs->
  Calls P f (vs++bl.map fun b=>Value.pointer (some ⟨b,0,none⟩)).toArray w (fun e w'=>∃v St',e=.returned v/\RepD St' w' v res/\Below w.heap.size w w'/\Keep St w St' w'/\
   (∀b o,St' b o->St b o\/w.heap.size<=b)/\(∀b o,St' b o->b<w'.heap.size))
end
def zdv: Value->D
 | .slice none 0 0=>.slice []
 |v=>.val v
def zWW(P:Program)(e:TypeId): Option D :=
 match zBv P e,zBh P e with
 |some zs,some (true,_)=>some (.agg (zs.map zdv))
 |some [z],some (false,_)=>some (zdv z)
 |_,_=>none
theorem zI7(St:Stab)(w:World)(v:Value): RepD St w v (zdv v):=by
 unfold zdv
 split
 ·exact .slice none 0 0 0 [] [] rfl (qAN _) (qAO _) sI rfl sI sI sI
 ·exact .val _
theorem zQO(v:Value): (zdv v).flat=[zdv v]:=by
 unfold zdv
 split <;> rfl
theorem zRx{P:Program}{e:TypeId}{i:TypeInfo}{zd:D}(hi:P.info? e=some i)(h:zWW P e=some zd): ∃z,i.zero=some z/\z.cells.size=zd.flat.length/\(∀u∈z.cells,u.oneCell'=true)/\
  ∀(St:Stab) (w:World) (j:Nat) (u:Value) (d:D),z.cells[j]?=some u->zd.flat[j]?=some d->RepD St w u d:=by
 have hz:∀zs,zBv P e=some zs->∃z,i.zero=some z/\z.cells.toList=zs/\∀u∈z.cells,u.oneCell'=true:=by
  intro zs hz
  unfold zBv at hz
  rw[hi]at hz
  cases hq:i.zero with
  |none=>simp[hq]at hz
  |some z =>
   simp only[hq]at hz
   split at hz
   ·rename_i hall;injection hz with hz;exact⟨z,rfl,hz,qBX.1 hall⟩
   ·cases hz
 unfold zWW at h
 split at h
 ·rename_i zs n h1 h2
  injection h with h;subst h
  obtain⟨z,e1,e2,e3⟩:=hz zs h1
  refine⟨z,e1,by rw[<-qAV,e2];simp[D.flat],e3,fun St w j u d hu hd=>?_⟩
  rw[<-qAz,e2]at hu
  simp only[D.flat,qAJ,hu]at hd
  simp at hd;subst hd;exact zI7 St w u
 ·rename_i z0 n h1 h2
  injection h with h;subst h
  obtain⟨z,e1,e2,e3⟩:=hz [z0] h1
  refine⟨z,e1,by rw[<-qAV,e2,zQO];simp,e3,fun St w j u d hu hd=>?_⟩
  rw[<-qAz,e2]at hu
  rw[zQO]at hd
  match j with
  |0=>simp at hu hd;subst hu;subst hd;exact zI7 St w _
  |j+1=>simp at hu
 ·cases h
section
variable {C:Ctx}{ops:Array Oper}{rest:List Oper}{K:Sl->List Ob->Prop}{σ:Sl}{η:List Ob}{d:Nat}{ty:TypeId}{pos:String}{after:Array Edge}{gd:Option (Nat×Bool)}{t:TypeId}{x y:Operand}
theorem zVE(n:Nat)(zd:D)(j:Nat)(hp:0<zd.flat.length)(hj:j<n*zd.flat.length): (zC2 (List.replicate n zd))[j]?=zd.flat[j%zd.flat.length]?:=by
 have hd:j / zd.flat.length<n:=by rwa [Nat.div_lt_iff_lt_mul hp]
 have:=zG4 (sz:=zd.flat.length) (xs:=List.replicate n zd) (fun x hx=>by rw[List.eq_of_mem_replicate hx]) (i:=j / zd.flat.length) (d:=zd) (by simp[hd]) (j:=j%zd.flat.length) (Nat.mod_lt _ hp)
 rw[<-this]
 congr 1
 rw[Nat.mul_comm];exact(Nat.div_add_mod _ _).symm
theorem zdB{e sz by':Nat}{zd:D}{n:Int}{k k':IntKind}(hx:oval σ x=.d (.val (.int k n)))(hy:oval σ y=.d (.val (.int k' n)))(he:zCB C.P t=some e)(hs:zBU C.P t=some sz)(hz:zWW C.P e=some zd)(hzl:zd.flat.length=sz)(hp:Nat.blt 0 sz=true)(hb:zDZ C.P t=some by')
  (hd:Nat.blt d C.N=true) (hro:Nat.ble C.ro η.length=true) (hn:0<=n/\n*by'<=281474976710656/\n<=281474976710656)
  (h:alex C false ops rest K ((d,.buf η.length n.toNat)::σ) (η++[.buf true e sz (List.replicate n.toNat zd)])) :
  zBJ C false ops ⟨some d,.makeSlice t x y,ty,pos,after,gd⟩ rest K σ η:=by
 have hp:0<sz:=by simpa using hp
 refine zIo (fun g a w ha=>?_) h
 obtain⟨e',i,hu,hi,hsz⟩:=zB4 hs
 have:e'=e:=by have:=zCw he;rw[hu]at this;injection this with this;injection this
 subst this
 have hby:i.bytes=by':=by
  obtain⟨e2,i2,h1,h2,h3⟩:=zGL hb
  rw[hu]at h1;injection h1 with h1;injection h1 with h1;subst h1
  rw[hi]at h2;injection h2 with h2;subst h2;exact h3
 obtain⟨z,hzz,hzs,hz1,hzr⟩:=zRx hi hz
 have hxr:=ha.eval x;rw[hx]at hxr
 have hyr:=ha.eval y;rw[hy]at hyr
 have hrun:=run_make (P:=C.P) w t e' i z hu hi hzz k k' n n hn.1 (Int.le_refl _) (by rw[hby,Int.mul_comm];exact hn.2.1) oM
 have hg0:∀(j:Nat) (u:Value),(madeCells z.cells (n.toNat*i.size))[j]?=some u->j<n.toNat*sz/\z.cells[j%sz]?=some u:=by
  intro j u hu
  unfold madeCells at hu
  rw[hsz]at hu
  obtain⟨hj,hu⟩:=qAn.1 hu
  simp at hj
  simp only[Array.getElem_map,Array.getElem_range]at hu
  have hm:j%sz<z.cells.size:=by rw[hzs,hzl];exact Nat.mod_lt _ hp
  refine⟨hj,?_⟩
  rw[hzs,hzl]at hu
  rw[getElem!_pos z.cells (j%sz) hm]at hu
  rw[qAP hm,hu]
 have hbuf:=ha.newBuf (w':=w.alloc (.cells (madeCells z.cells (n.toNat*i.size)) e')) true e' sz n.toNat (madeCells z.cells (n.toNat*i.size)) (List.replicate n.toNat zd) rfl rfl rfl sI (fun k hk=>Below.heap_alloc w _ k hk) (_root_.Go.heap_alloc_new w _) (qAM hro)
  (fun x hx=>by rw[List.eq_of_mem_replicate hx];exact hzl) sI (by simp only[maxLen];omega) (by rw[size_madeCells,hsz])
  (fun j u _ hu=>hz1 u (Array.mem_of_getElem? (hg0 j u hu).2))
  (fun j u d' hu hd'=>by
   obtain⟨h1,h2⟩:=hg0 j u hu
   rw[zVE n.toNat zd j (by rw[hzl];exact hp) (by rw[hzl];exact h1),hzl]at hd'
   exact hzr g.St w _ u d' h2 hd')
 refine⟨_,_,by simp only[execOp,Sem.run_bind,RepD.val_eq hxr,RepD.val_eq hyr,hrun];rfl,_,hbuf.put (d:=some d) hd ?_⟩
 refine⟨?_,?_⟩
 ·show η.length<g.n+1;have:=ha.inv.n;omega
 ·have hn':=ha.inv.n
  show _=Value.slice ((upd g.blk g.n (some w.heap.size) η.length).map _) _ (upd g.cap g.n n.toNat η.length)
  rw[<-hn'];simp[upd]
theorem AbsG.writeBuf{g:Gh}{a:Act}{w:World}(ha:AbsG C g σ η a w){id e sz b:Nat}{xs xs':List D}{us us':Array Value}(ho:η[id]?=some (.buf true e sz xs))(hro:C.ro<=id)(hb:g.blk id=some b)(hh:w.heap[b]?=some (.cells us e (0,0)))
  (hst:∀o,¬g.St b o) (hf:∀x∈xs',x.flat.length=sz) (hl:xs'.length<=g.cap id) (hs:us'.size=us.size) (hus:us.size=g.cap id*sz)
  (h1:∀(j:Nat) (u:Value),j<xs'.length*sz->us'[j]?=some u->u.oneCell'=true) (hr:∀(j:Nat) (u:Value) (d:D),us'[j]?=some u->(zC2 xs')[j]?=some d->RepD g.St w u d) :
  AbsG C g σ (η.set id (.buf true e sz xs')) a (w.setRow b us'):=by
 have hoth:∀k,k≠b->(w.setRow b us').heap[k]?=w.heap[k]?:=fun k hk=>setRow_other w b k us' hk
 have kp:Keep g.St w g.St (w.setRow b us'):=⟨fun _ _ h=>h,fun c o u hc hu=>(World.cell?_of_block (a:=⟨c,o,none⟩) (hoth c (fun e=>hst o (e▸hc)))).trans hu,fun c hc=>hoth c (fun e=>hst 0 (e▸hc 0))⟩
 have rk:∀{v:Value} {s:SV},RepS g w v s->RepS g (w.setRow b us') v s:=fun r=>r.ext kp (fun _ _=>⟨rfl,rfl,rfl⟩) (qAN _)
 have hidl:id<η.length:=(qAA.1 ho).1
 obtain⟨o1,o2,o3,o4,o5⟩:=ha.inv.ob id _ ho
 refine⟨ha.defers,ha.size,⟨by rw[qAv];exact ha.inv.n,fun i c hc=>by rw[setRow_size];exact ha.inv.lt i c hc,ha.inv.dead,ha.inv.inj,fun i o hi=>?_,fun c o hc=>by rw[setRow_size];exact ha.inv.st c o hc,ha.inv.gl.keep kp⟩,ha.os,ha.tape,ha.output,by rw[setRow_size];exact ha.wsize,
  fun k hk hx=>?_,ha.keep.trans kp,ha.new,ha.own,fun t=>rk (ha.rep t)⟩
 ·rw[qAh]at hi
  split at hi
  ·rename_i hc;subst hc
   try rw[if_pos hidl]at hi
   injection hi with hi;subst hi
   exact⟨o1,hf,o3,hl,.inr ⟨b,us',hb,setRow_heap w b us us' e (0,0) hh,by rw[hs,hus],h1,fun j u d hu hd=>(hr j u d hu hd).keep kp,fun o=>⟨fun h=>absurd h (hst o),fun h=>by cases h.1⟩⟩⟩
  ·rename_i hc
   refine(ha.inv.ob i o hi).ext kp (fun _ _=>⟨rfl,rfl,rfl⟩) (qAN _) (by rw[ha.inv.n];exact(qAA.1 hi).1) (fun c hcb=>⟨hoth c (fun e=>?_),fun _=>Iff.rfl⟩)
   subst e
   exact hc (ha.inv.inj id i c hb hcb)
 ·rw[hoth k (fun e=>?_)]
  ·exact ha.heap k hk hx
  ·subst e
   rcases ha.own id k hb hro with h2|h2
   ·omega
   ·exact hx h2
theorem zdE{id n e sz:Nat}{xs ys:List D}{t2:TypeId}(hx:oval σ x=.buf id n)(ho:η[id]?=some (.buf true e sz xs))(hn:n=xs.length)(hy:Co η (oval σ y) (.slice ys))(hs:zBU C.P t=some sz)(hf:∀d∈ys,d.flat.length=sz)(hro:Nat.ble C.ro id=true){dst:Option Nat}(hd:zFA C.N dst)
  (h:alex C false ops rest K (put σ dst (.d (.val (.int .i64 (min ys.length xs.length:Nat))))) (η.set id (.buf true e sz (ys.take xs.length++xs.drop ys.length)))) :
  zBJ C false ops ⟨dst,.call ⟨.builtin .copy, #[x,y], #[t,t2]⟩,ty,pos,after,gd⟩ rest K σ η:=by
 subst hn
 refine zIo (fun g a w ha=>?_) h
 obtain⟨e',i,hu,hi,hsz⟩:=zB4 hs
 have hro:=qAM hro
 have hxr:=ha.eval x;rw[hx]at hxr
 obtain⟨hidn,hxv⟩:=hxr
 obtain⟨sa,sc,news,hyv,_,_,hnl,hn1,hncell,hnrep⟩:=(hy.rep ha.inv (ha.eval y)).open_slice hf
 obtain⟨o1,o2,o3,o4,o5⟩:=ha.inv.ob id _ ho
 let m:=min ys.length xs.length
 have hml:m*sz<=ys.length*sz:=qAy _ (Nat.min_le_left _ _)
 have hmx:m*sz<=xs.length*sz:=qAy _ (Nat.min_le_right _ _)
 have hfl:(zC2 xs).length=xs.length*sz:=zCQ o2
 have hres:ys.take xs.length++xs.drop ys.length=ys.take m++xs.drop m:=by
  rcases Nat.le_total ys.length xs.length with hle|hle
  ·have e1:m=ys.length:=Nat.min_eq_left hle
   rw[e1,qAe hle,qBF]
  ·have e1:m=xs.length:=Nat.min_eq_right hle
   rw[e1,qAa hle,qAa (qAN _)]
 have hfirst:(Builtin.firstCells i.size m (.slice sa ys.length sc)).run C.P w=.ok (news.take (m*sz)).toArray w:=by
  by_cases h0:0<ys.length
  ·obtain⟨ad,rfl,hcc⟩:=hncell h0
   refine run_firstCells_some (P:=C.P) w i.size m ad ys.length sc (news.take (m*sz)) (by rw[qAU,hnl,hsz];omega) (fun j v hj=>?_)
   rw[qAd]at hj
   split at hj
   ·exact(hcc j v hj).2
   ·cases hj
  ·have hm0:m=0:=by show min _ _=0;omega
   rw[hm0]
   cases sa <;> simp[Builtin.firstCells,loadCells,loadCellsFrom]
 have hlx:(ys.take m++xs.drop m).length=xs.length:=by
  have hm1:m<=ys.length:=Nat.min_le_left _ _
  have hm2:m<=xs.length:=Nat.min_le_right _ _
  rw[qAH,qAU,qAg];omega
 have hff:∀d∈ys.take m++xs.drop m,d.flat.length=sz:=fun d hd=>by
  rcases qAm.1 hd with hd|hd
  ·exact hf d (qA3 hd)
  ·exact o2 d (qBV hd)
 have hkey:∃w',(Builtin.copy_ #[t,t2] ty #[a.eval x,a.eval y]).run C.P w=.ok (goInt (m:Nat)) w'/\AbsG C g σ (η.set id (.buf true e sz (ys.take m++xs.drop m))) a w':=by
  rcases o5 with⟨h1,h2⟩|⟨b,us,h1,h2,h3,h4,h5,h6⟩
  ·have hx0:xs=[]:=qAf oM
   subst hx0
   have hm0:m=0:=by show min _ _=0;simp
   refine⟨w,?_,?_⟩
   ·rw[hxv,hyv,h1]
    rw[hm0]at hfirst
    simp[Builtin.copy_,run_underlying hu,Builtin.lenOf,sizeOf,typeInfo,hi,hfirst,hm0]
   ·rw[hm0]
    have:η.set id (.buf true e sz ([].take 0++[].drop 0))=η:=by
     refine qBk fun j=>?_
     rw[qAh]
     split
     ·rename_i hj;subst hj;rw[if_pos (qAA.1 ho).1,ho];rfl
     ·rfl
    simp only[List.take_zero,List.drop_nil,qA0]at this ⊢
    rw[this];exact ha
  ·have hxu:xs.length*sz<=us.size:=by rw[h3];exact qAy _ o4
   have hln:(news.take (m*sz)).length=m*sz:=by rw[qAU];omega
   have hst:=run_storeCells_at C.P b 0 e (news.take (m*sz)) 0 us w h2 oM (fun v hv=>hn1 v (qA3 hv))
   simp only[qBI,List.take_zero,qA9,qAS,hln]at hst
   refine⟨_,?_,ha.writeBuf (us':=(news.take (m*sz)++us.toList.drop (m*sz)).toArray) ho hro h1 h2 (fun o hc=>by have:=(h6 o).1 hc;cases this.1) hff (by rw[hlx];exact o4) (by simp[hln];omega) h3 (fun j u hj hu'=>?_) (fun j u d' hu' hd'=>?_)⟩
   ·rw[hxv,hyv,h1]
    simp[Builtin.copy_,run_underlying hu,Builtin.lenOf,sizeOf,typeInfo,hi,hfirst,hst,m]
   ·rw[qBe]at hu'
    rcases qAF j (m*sz)with hj2|hj2
    ·rw[qAG oM]at hu'
     exact hn1 u (qA3 (qAC hu'))
    ·rw[qAD oM,hln,qBC,qAz]at hu'
     rw[hlx]at hj
     exact h4 _ u oM hu'
   ·rw[qBe]at hu'
    rw[zD4,zFk hf,zHf o2]at hd'
    have hly:((zC2 ys).take (m*sz)).length=m*sz:=by rw[qAU,zCQ hf];omega
    rcases qAF j (m*sz)with hj2|hj2
    ·rw[qAG oM,qAd,if_pos hj2]at hu' hd'
     exact hnrep j u d' hu' hd'
    ·rw[qAD oM,qBC]at hu' hd'
     rw[hln,qAz]at hu'
     rw[hly]at hd'
     exact h5 _ u d' hu' hd'
 obtain⟨w',hrun,hab⟩:=hkey
 rw[<-hres]at hab
 refine⟨.int .i64 (m:Nat),w',?_,g,hab.put (d:=dst) hd (.val _)⟩
 simp only[execOp,resolve,invoke,builtin,Sem.run_bind,Sem.run_pure,Result.andThen_ok,qA4,qA1,List.map_nil,hrun]
 rfl
theorem zWB{id i n e:Nat}{xs:List D}{c:D}(hx:oval σ x=.bptr id i 0)(hy:oval σ y=.d c)(hc:one (.d c)=true)(ht:zBh C.P t=some (false,n))(hn:Nat.beq n 1=true)(ho:η[id]?=some (.buf true e 1 xs))(hi:i<xs.length)(hro:Nat.ble C.ro id=true)
  (h:alex C false ops rest K σ (η.set id (.buf true e 1 (xs.set i c)))):zBJ C false ops ⟨none,.store t x y,ty,pos,after,gd⟩ rest K σ η:=by
 have hn:=qAX hn
 subst hn
 refine zRP (fun g a w ha=>?_) h
 have hp:=ha.eval x;rw[hx]at hp
 have hr:=ha.eval y;rw[hy]at hr
 obtain⟨hid,b,hb,hpv⟩:=hp
 obtain⟨o1,o2,o3,o4,o5⟩:=ha.inv.ob id _ ho
 rcases o5 with⟨h1,_⟩|⟨b',us,h1,h2,h3,h4,h5,h6⟩
 ·rw[h1]at hb;cases hb
 ·rw[hb]at h1;injection h1 with h1;subst h1
  obtain⟨c1,c2⟩:=RepS.one (g:=g) (w:=w) (s:=.d c) hr hc
  have hst:=run_storeCells_at C.P b i e [a.eval y] 0 us w h2 pAJ (fun v hv=>by simp at hv;subst hv;exact c2)
  simp only[qBI,qAr]at hst
  have hcf:c.flat=[c]:=by
   cases c with
   |agg cs=>cases hc
   |_=>rfl
  have hfx:∀(l:List D),(∀x∈l,x.flat.length=1)->∀(j:Nat),(zC2 l)[j]?=(l[j]?).bind (fun (d:D)=>d.flat[0]?):=by
   intro l hl j
   rcases qAF j l.length with hj|hj
   ·have:=zG4 (sz:=1) hl (qAB hj) (j:=0) oM
    rw[Nat.mul_one,qBI]at this
    rw[this,qAB hj];rfl
   ·rw[qAj hj,qAj (by rw[zCQ hl];omega)];rfl
  have hset:∀x∈xs.set i c,x.flat.length=1:=fun x hx=>by
   rcases List.mem_or_eq_of_mem_set hx with h|h
   ·exact o2 x h
   ·rw[h,hcf];rfl
  refine⟨_,?_,g,ha.writeBuf (us':=(us.toList.take i++[a.eval y]++us.toList.drop (i+1)).toArray) ho (qAM hro) hb h2 (fun o hc=>by have:=(h6 o).1 hc;cases this.1) hset (by rw[qAv];exact o4) pAJ h3 (fun j u hj hu=>?_) (fun j u d' hu hd'=>?_)⟩
  ·rw[o1,Nat.mul_one,qBI]at hpv
   simp only[execOp,hpv,Instr.storeAt,Instr.sureAddr,storeVar,Sem.run_bind,Sem.run_pure,Result.andThen_ok,(zCb ht w).2,c1,ne_eq]
   simp[hst]
  ·rw[qBe]at hu
   have hm:=qAC hu
   rcases qBS j i with hji|hji|hji
   ·rw[qAY,qAG pAJ,qAd,if_pos hji,qAz]at hu
    rw[qAv]at hj
    exact h4 j u hj hu
   ·subst hji
    rw[qAY,qAD pAJ]at hu
    have e1:(us.toList.take j).length=j:=by rw[qAU,qAV];omega
    rw[e1,Nat.sub_self]at hu
    simp at hu;subst hu;exact c2
   ·rw[qAY,qAD pAJ]at hu
    have e1:(us.toList.take i).length=i:=by rw[qAU,qAV];omega
    rw[e1,qAD pAJ,qAr,qBC,qAz]at hu
    rw[qAv]at hj
    exact h4 _ u oM hu
  ·rw[qBe]at hu
   rw[hfx _ hset,qAh]at hd'
   rcases qBS j i with hji|hji|hji
   ·rw[qAY,qAG pAJ,qAd,if_pos hji,qAz]at hu
    rw[if_neg oM,<-hfx _ o2]at hd'
    exact h5 j u d' hu hd'
   ·subst hji
    rw[qAY,qAD pAJ]at hu
    have e1:(us.toList.take j).length=j:=by rw[qAU,qAV];omega
    rw[e1,Nat.sub_self]at hu
    simp at hu;subst hu
    rw[if_pos rfl,if_pos hi,qBQ,hcf]at hd'
    simp at hd';subst hd';exact hr
   ·rw[qAY,qAD pAJ]at hu
    have e1:(us.toList.take i).length=i:=by rw[qAU,qAV];omega
    rw[e1,qAD pAJ,qAr,qBC,qAz]at hu
    rw[if_neg oM,<-hfx _ o2]at hd'
    have e2:i+1+(j-i-1)=j:=by omega
    rw[e2]at hu
    exact h5 j u d' hu hd'
end
def SV.bel(m:Nat): SV->Bool
 | .ptr i _=>Nat.blt i m
 | .bptr i _ _=>Nat.blt i m
 | .buf i _=>Nat.blt i m
 | .bsl i _ _=>Nat.blt i m
 | .clo _ ids=>ids.all fun i=>Nat.blt i m
 | .mp i=>Nat.blt i m
 | .pair a b=>a.bel m&&b.bel m
 |_=>true
def Ob.below(m:Nat): Ob->Bool
 | .bx _ _ cs=>cs.all (SV.bel m)
 | .miter i _ _ _=>Nat.blt i m
 |_=>true
def zFW(m:Nat): Sl->Bool
 |[]=>true
 |(_,s)::r=>s.bel m&&zFW m r
theorem zIw{m:Nat}: ∀{σ:Sl},zFW m σ=true->∀t,(get σ t).bel m=true
 |[],_,_=>rfl
 |(k,s)::r,h,t=>by
  simp only[zFW,qAR]at h
  rw[zBl];split
  ·exact h.1
  ·exact zIw h.2 t
def cut(g:Gh)(m:Nat): Gh:={ g with blk:=fun i=>if i<m then g.blk i else none,n:=m }
theorem RepS.cut{g:Gh}{w:World}{v:Value}{s:SV}{m:Nat}(_hm:m<=g.n)(hs:s.bel m=true)(r:RepS g w v s): RepS (cut g m) w v s:=by
 have bl:∀{i:Nat},Nat.blt i m=true->i<m:=fun h=>by simpa using h
 induction s generalizing v with
 |d d=>exact r
 |nil=>exact r
 |ptr i off=>obtain⟨h1,b,h2,h3⟩:=r;exact⟨bl hs,b,by simp only[Sx.cut];rw[if_pos (bl hs)];exact h2,h3⟩
 |rptr cs=>exact r
 |bptr i j off=>obtain⟨h1,b,h2,h3⟩:=r;exact⟨bl hs,b,by simp only[Sx.cut];rw[if_pos (bl hs)];exact h2,h3⟩
 |buf i n=>obtain⟨h1,h2⟩:=r;exact⟨bl hs,by simp only[Sx.cut];rw[if_pos (bl hs)];exact h2⟩
 |bsl i k n=>obtain⟨h1,h2⟩:=r;exact⟨bl hs,by simp only[Sx.cut];rw[if_pos (bl hs)];exact h2⟩
 |clo f ids =>
  obtain⟨vs,h1,h2,h3⟩:=r
  refine⟨vs,h1,h2,fun j i u hj hu=>?_⟩
  have hi:=bl (qAI.1 hs i (qAC hj))
  obtain⟨h4,b,h5,h6⟩:=h3 j i u hj hu
  exact⟨hi,b,by simp only[Sx.cut];rw[if_pos hi];exact h5,h6⟩
 |mp i=>obtain⟨h1,b,h2,h3⟩:=r;exact⟨bl hs,b,by simp only[Sx.cut];rw[if_pos (bl hs)];exact h2,h3⟩
 |pair a b ha hb =>
  simp only[SV.bel,qAR]at hs
  obtain⟨u1,u2,h1,h2,h3⟩:=r;exact⟨u1,u2,h1,ha hs.1 h2,hb hs.2 h3⟩
 |p φ=>exact r
 |top=>trivial
theorem AbsG.cut{C:Ctx}{g:Gh}{σ:Sl}{η h:List Ob}{a:Act}{w:World}(ha:AbsG C g σ η a w)(hp:∃r,η=h++r)(hσ:zFW h.length σ=true)(hη:h.all (Ob.below h.length)=true): AbsG C (cut g h.length) σ h a w:=by
 obtain⟨r,rfl⟩:=hp
 have hn:=ha.inv.n
 have hm:h.length<=g.n:=by rw[hn];simp
 have hb:∀i b,(Sx.cut g h.length).blk i=some b->i<h.length/\g.blk i=some b:=by
  intro i b hb
  simp only[Sx.cut]at hb
  split at hb
  ·rename_i hc;exact⟨hc,hb⟩
  ·cases hb
 refine⟨ha.defers,ha.size,⟨rfl,fun i b hi=>ha.inv.lt i b (hb i b hi).2,fun i hi=>?_,fun i j b hi hj=>ha.inv.inj i j b (hb i b hi).2 (hb j b hj).2,fun i o ho=>?_,ha.inv.st,ha.inv.gl⟩,ha.os,ha.tape,ha.output,ha.wsize,ha.heap,ha.keep,ha.new,fun i b hi hr=>ha.own i b (hb i b hi).2 hr,fun t=>(ha.rep t).cut hm (zIw hσ t)⟩
 ·have:¬i<h.length:=by have h0:h.length<=i:=hi;omega
  simp only[Sx.cut];rw[if_neg this]
 ·have hil:i<h.length:=(qAA.1 ho).1
  have hoo:=ha.inv.ob i o (by rw[qAG hil];exact ho)
  have hbo:=qAI.1 hη o (qAC ho)
  have hblk:(Sx.cut g h.length).blk i=g.blk i:=by simp only[Sx.cut];rw[if_pos hil]
  cases o with
  |bx kb et cs =>
   obtain⟨b,e,us,h1,h2,h3,h4,h5,h6,h7⟩:=hoo
   exact⟨b,e,us,by rw[hblk];exact h1,h2,h3,h4,fun j u s hu hs=>(h5 j u s hu hs).cut hm (qAI.1 hbo s (qAC hs)),h6,h7⟩
  |buf mu e sz xs =>
   obtain⟨h1,h2,h3,h4,h5⟩:=hoo
   refine⟨h1,h2,h3,h4,?_⟩
   rw[hblk];exact h5
  |iter s pos =>
   obtain⟨b,h1,h2,h3⟩:=hoo
   exact⟨b,by rw[hblk];exact h1,h2,h3⟩
  |mapq q kb l =>
   obtain⟨b,es,ck,h1,h2⟩:=hoo
   exact⟨b,es,ck,by rw[hblk];exact h1,h2⟩
  |miter m since seen st =>
   obtain⟨b,bm,h1,h2,h3,h4⟩:=hoo
   have hml:m<h.length:=by simpa[Ob.below]using hbo
   exact⟨b,bm,by rw[hblk];exact h1,hml,by simp only[Sx.cut];rw[if_pos hml];exact h3,h4⟩
  |gone=>trivial
def WOb(o o':Ob): Prop:=∀(g:Gh) (w:World) (id:Nat),ObOk g w id o'->ObOk g w id o
def Pre: List Ob->List Ob->Prop
 |[],_=>True
 |o::h,o'::η=>WOb o o'/\Pre h η
 |_::_,[]=>False
theorem Pre.ex: ∀{h η:List Ob},Pre h η->∃r,(h++r).length=η.length/\∀(id:Nat) (o:Ob),(h++r)[id]?=some o->∃o',η[id]?=some o'/\WOb o o'
 |[],η,_=>⟨η,rfl,fun id o h=>⟨o,h,fun _ _ _ h=>h⟩⟩
 |o::h,o'::η,⟨e,p⟩=>by
  obtain⟨r,h1,h2⟩:=p.ex
  refine⟨r,by simpa using h1,fun id q hq=>?_⟩
  cases id with
  |zero=>simp at hq;subst hq;exact⟨o',rfl,e⟩
  |succ id=>exact h2 id q (by simpa using hq)
 |_::_,[],p=>p.elim
theorem zAW{η:List Ob}: Pre [] η:=trivial
theorem zE9{o o':Ob}{h η r:List Ob}(e1:η=o'::r)(e2:WOb o o')(p:Pre h r): Pre (o::h) η:=by subst e1;exact⟨e2,p⟩
theorem zAT{o o':Ob}{h η r:List Ob}(e1:η=o'::r)(e2:o=o')(p:Pre h r): Pre (o::h) η:=by subst e1;subst e2;exact⟨fun _ _ _ h=>h,p⟩
theorem zBa{o':Ob}{h η r:List Ob}{mu:Bool}{e sz:Nat}{xs xs':List D}(e1:η=o'::r)(e2:o' = .buf mu e sz xs')(e3:xs=xs')(p:Pre h r): Pre (.buf mu e sz xs::h) η:=by subst e1;subst e2;subst e3;exact⟨fun _ _ _ h=>h,p⟩
theorem zNT{o':Ob}{h η r:List Ob}(e1:η=o'::r)(p:Pre h r): Pre (.gone::h) η:=by subst e1;exact⟨fun _ _ _ _=>trivial,p⟩
def Fits(s:Sl)(h:List Ob)(σ:Sl)(η:List Ob): Prop:=Le s σ/\Pre h η/\zFW h.length s=true/\h.all (Ob.below h.length)=true
theorem Fits.abs{C:Ctx}{s σ:Sl}{h η:List Ob}{a:Act}{w:World}(f:Fits s h σ η)(ha:Abs C σ η a w): Abs C s h a w:=by
 obtain⟨g,hg⟩:=ha
 obtain⟨f1,f2,f3,f4⟩:=f
 obtain⟨r,e1,e2⟩:=f2.ex
 have h1:=hg.get_eq f1
 have hob:∀(id:Nat) (o:Ob),(h++r)[id]?=some o->ObOk g w id o:=fun id o ho=>by
  obtain⟨o',q1,q2⟩:=e2 id o ho
  exact q2 g w id (h1.inv.ob id o' q1)
 have hi:Inv g w (h++r):={ h1.inv with n:=h1.inv.n.trans e1.symm,ob:=hob }
 have h2:AbsG C g s (h++r) a w:={ h1 with inv:=hi }
 exact⟨_,h2.cut ⟨r,rfl⟩ f3 f4⟩
theorem zAV{s σ:Sl}{h η:List Ob}(h1:Le s σ)(h2:Pre h η)(h3:zFW h.length s=true)(h4:h.all (Ob.below h.length)=true): Fits s h σ η:=⟨h1,h2,h3,h4⟩
theorem Le_d{σ:Sl}{k:Nat}{d d':D}{r:Sl}(h:get σ k=.d d')(e:d=d')(hr:Le r σ): Le ((k,.d d)::r) σ:=by subst e;exact Le_cons h hr
theorem zCR{σ:Sl}{k id n n':Nat}{r:Sl}(h:get σ k=.buf id n')(e:n=n')(hr:Le r σ): Le ((k,.buf id n)::r) σ:=by subst e;exact Le_cons h hr
theorem zDJ{C:Ctx}{c:Code}{Q:Exit->Sl->List Ob->Prop}{s σ:Sl}{h η:List Ob}(f:Fits s h σ η)(hw:awp C c Q s h): awp C c Q σ η:=fun R hR a w hab=>hw R hR a w (f.abs hab)
theorem zAt{C:Ctx}{c:Code}{Q:Exit->Sl->List Ob->Prop}{σ:Sl}{η:List Ob}{α:Type}(I:α->Prop)(s:α->Sl)(h:α->List Ob)(μ:α->Nat)(x0:α)
  (h0:I x0) (e0:Fits (s x0) (h x0) σ η)
  (round:∀x,I x->awp C c (zBb (fun σ' η'=>∃y,I y/\μ y<μ x/\Fits (s y) (h y) σ' η') Q) (s x) (h x)):awp C (.loop c) Q σ η:=by
 refine zDJ e0 ?_
 refine zVw I s h μ x0 h0 (fun x hx=>?_)
 intro R hR a w hab
 exact round x hx R (fun e σ' η' a' w' hq hab'=>by
  cases e with
  |normal=>obtain⟨y,h1,h2,h3⟩:=hq;exact hR .normal _ _ a' w' ⟨y,h1,h2,rfl,rfl⟩ (h3.abs hab')
  |_=>exact hR _ _ _ _ _ hq hab') a w hab
theorem zQB{C:Ctx}{p q rest rest':Code}{Q:Exit->Sl->List Ob->Prop}{σ:Sl}{η:List Ob}{α:Type}(l:Nat)(hf:findLabel (p.seq (q.seq ((Code.label l).seq rest))) l=some rest')(hr:rest'=Code.skip.seq rest)(I:α->Prop)(s:α->Sl)(h:α->List Ob)(μ:α->Nat)
  (first:awp C p (zBb (awp C q (zBb (fun σ' η'=>∃y,I y/\Fits (s y) (h y) σ' η') (zBd l (fun _ _=>False) Q))) (zBd l (fun _ _=>False) Q)) σ η)
  (pass:∀x,I x->awp C rest (zBd l (fun σ' η'=>∃y,I y/\μ y<μ x/\Fits (s y) (h y) σ' η') Q) (s x) (h x)):awp C (.scope (p.seq (q.seq ((Code.label l).seq rest)))) Q σ η:=by
 subst hr
 have conv0:∀x,I x->awp C rest (zBd l (fun σ' η'=>∃y,I y/\μ y<μ x/\s y=σ'/\h y=η') Q) (s x) (h x):=by
  intro x hx R hR a w hab
  exact pass x hx R (fun e σ' η' a' w' hq hab'=>by
   cases e with
   |goto l'=>obtain⟨e1,y,h1,h2,h3⟩:=hq;exact hR (.goto l') _ _ a' w' ⟨e1,y,h1,h2,rfl,rfl⟩ (h3.abs hab')
   |_=>exact hR _ _ _ _ _ hq hab') a w hab
 have conv:∀x,I x->awp C (Code.skip.seq rest) (zBd l (fun σ' η'=>∃y,I y/\μ y<μ x/\s y=σ'/\h y=η') Q) (s x) (h x):=fun x hx=>zAE (zAM (conv0 x hx))
 refine zSz l hf I s h μ ?_ conv
 refine zAE ?_
 intro R hR a w hab
 refine first R (fun e σ' η' a' w' hq hab'=>?_) a w hab
 cases e with
 |normal =>
  refine hR .normal σ' η' a' w' ?_ hab'
  refine zAE ?_
  intro R3 hR3 a3 w3 hab3
  refine hq R3 (fun e σ' η' a' w' hq hab'=>?_) a3 w3 hab3
  cases e with
  |normal =>
   obtain⟨y,h1,h2⟩:=hq
   refine hR3 .normal (s y) (h y) a' w' ?_ (h2.abs hab')
   refine zAE (zVx ?_)
   intro R2 hR2 a2 w2 hab2
   refine conv0 y h1 R2 (fun e σ' η' a' w' hq hab'=>?_) a2 w2 hab2
   cases e with
   |goto l'=>obtain⟨e1,z,z1,z2,z3,z4⟩:=hq;exact hR2 (.goto l') _ _ a' w' ⟨e1,z,z1,z3,z4⟩ hab'
   |_=>exact hR2 _ _ _ _ _ hq hab'
  |goto l'=>exact hq.2.elim
  |_=>exact hR3 _ _ _ _ _ hq hab'
 |goto l'=>exact hq.2.elim
 |_=>exact hR _ _ _ _ _ hq hab'
section
variable {P:Program}{η:List Ob}{σ:Sl}{dst:Option Nat}{ty:TypeId}{pos:String}{after:Array Edge}{gd:Option (Nat×Bool)}{t:TypeId}{x y z:Operand}
theorem zKB{sz:Nat}{n:Int}{xs:List D}{d:D}{k:IntKind}(hc:Co η (oval σ x) (.slice xs))(hy:oval σ y=.d (.val (.int k n)))(hs:zBU P t=some sz)(h0:0<=n)(hd:xs[n.toNat]?=some d)(hf:∀d∈xs,d.flat.length=sz):
  Ylds P η σ ⟨dst,.indexAddr t x y,ty,pos,after,gd⟩ (.rptr d.flat):=by
 obtain⟨e,i,hu,hi',hsz'⟩:=zB4 hs
 refine Ylds.same fun g w a hi h=>?_
 have h2:=h y sO;rw[hy]at h2
 obtain⟨oa,cap,us,hv,hcap,hm,hul,h1c,hcell,hrep⟩:=(hc.rep hi (h x sO)).open_slice hf
 have hlt:n.toNat<xs.length:=(qAA.1 hd).1
 have hfd:=hf d (qAC hd)
 obtain⟨ad,rfl,hcc⟩:=hcell oM
 have hmul:(n.toNat+1)*sz<=xs.length*sz:=qAy _ oM
 refine⟨.pointer (some (ad.add (n.toNat*sz))),?_,ad.add (n.toNat*sz),(us.drop (n.toNat*sz)).take sz,rfl,?_,?_,?_,?_⟩
 ·have hb:0<=n/\n<(xs.length:Int):=⟨h0,by omega⟩
  simp[execOp,hv,RepD.val_eq h2,Instr.indexAt,asIntOf,run_underlying hu,hb.1,hb.2,sizeOf,typeInfo,hi',hsz']
 ·rw[qAU,qAg,hfd,hul];rw[qA8]at hmul;omega
 ·exact fun u hm=>h1c u (qBV (qA3 hm))
 ·intro j u hj
  rw[qAd]at hj
  split at hj
  ·rw[zDT]at hj;exact(hcc _ _ hj).shift
  ·cases hj
 ·intro j u d' hj hd'
  rw[qAd]at hj
  split at hj
  ·rename_i hlt'
   rw[zDT]at hj
   exact hrep _ _ _ hj ((zG4 hf hd hlt').trans hd')
  ·cases hj
theorem zS7{sz e n:Nat}{xs:List Operand}{ds:List D}(he:zCB P t=some e)(hs:zBU P t=some sz)(hz:(zBv P e).isSome=true)(hp:Nat.blt 0 sz=true)(hb:Nat.ble (n*sz) 16777216=true){parts:Array (Nat×Operand)}(hparts:parts=((xs.zipIdx 0).map fun x=>(x.2,x.1)).toArray)
  (hl:xs.length=n) (hc:CoL η σ xs ds) (hf:∀d∈ds,d.flat.length=sz) (hok:ds.all okc=true):Ylds P η σ ⟨dst,.buildSlice t n parts,ty,pos,after,gd⟩ (.d (.slice ds)):=by
 have hp:0<sz:=by simpa using hp
 have hb:=qAM hb
 subst hparts
 intro g w a hinv hop
 refine .inl ?_
 obtain⟨e',i,hu,hi,hsz⟩:=zB4 hs
 have:e'=e:=by have:=zCw he;rw[hu]at this;injection this with this;injection this
 subst this
 have hrep:=CoL.rep (a:=a) hinv xs ds (fun x hx=>hop x (by
  simp only[Op.operands,qBo,List.mem_toArray,qAo]
  obtain⟨j,hj,rfl⟩:=qBf.1 hx
  exact⟨(xs[j],j),by rw[qBf];exact⟨j,by simpa using hj,by simp⟩,rfl⟩)) hc
 have hlen:=hrep.len
 rw[qAE]at hlen
 obtain⟨i1,i2⟩:=RepDs.cells _ ds hrep hf hok
 have hfl:=zFx (sz:=sz) (xs.map a.eval) (fun v hv=>(i1 v hv).1)
 rw[qAE,hl]at hfl
 let us:=((xs.map a.eval).flatMap fun v=>v.cells.toList).toArray
 have hus:us.size=n*sz:=by simpa[us]using hfl
 have hpe:((((xs.zipIdx 0).map fun x=>(x.2,x.1)).toArray).map fun (p:Nat×Operand)=>(p.1,a.eval p.2)).toList=(((xs.map a.eval).zipIdx 0).map fun x=>(x.2,x.1)):=by
  simp[List.zipIdx_map,List.map_map,Function.comp_def]
 have hrun:(Instr.buildSlice t n ((((xs.zipIdx 0).map fun x=>(x.2,x.1)).toArray).map fun (p:Nat×Operand)=>(p.1,a.eval p.2))).run P w=.ok (.slice (some ⟨w.heap.size,0,none⟩) n n) (w.alloc (.cells us e')):=by
  have hzz:∃z,i.zero=some z:=by
   unfold zBv at hz;rw[hi]at hz
   cases hq:i.zero with
   |none=>simp[hq]at hz
   |some z=>exact⟨z,rfl⟩
  obtain⟨z,hzz⟩:=hzz
  by_cases h0:n=0
  ·subst h0
   have hx:xs=[]:=qAf hl
   subst hx
   simp[Instr.buildSlice,run_underlying hu,sizeOf,typeInfo,hi,newRow,Instr.fill,us,Array.range_zero']
  ·have hne:¬n*i.size=0:=by rw[hsz];intro h;rcases Nat.mul_eq_zero.1 h with h|h <;> omega
   have hfw:=Great.fill_whole hp (xs.map a.eval) ((Array.range (n*i.size)).map (z.cells[· % z.cells.size]!)) (fun v hv=>(i1 v hv).1) (by simp[hl,hsz])
   exact run_buildSlice w t e' n _ us i z hu hi hzz (by rw[hsz];omega) hne (by rw[hpe];rw[<-hsz]at hfw;exact hfw)
 let g':Gh:={ g with St:=fun b o=>g.St b o\/(b=w.heap.size/\o<n*sz) }
 have hgr:Grow g w g' (w.alloc (.cells us e')):=⟨rfl,rfl,rfl,rfl,rfl,rfl,rfl,by simp,fun k hk=>Below.heap_alloc w _ k hk,fun _ _ h=>.inl h,fun b o h=>h.imp_right fun h=>by omega,fun b o h=>by
  rcases h with h|h
  ·exact qAc (hinv.st b o h) sI
  ·rw[h.1];simp⟩
 refine⟨_,g',_,by simp only[execOp,Sem.run_bind];rw[hrun];rfl,hgr,?_⟩
 have hfds:(zC2 ds).length=n*sz:=by rw[zCQ hf,<-hlen,hl]
 have hn63:n<=maxLen:=by simp only[maxLen];have:n*1<=n*sz:=Nat.mul_le_mul_left _ hp;omega
 refine RepD.slice _ n n sz ds us.toList oM (qAN _) hn63 hf (by rw[qAV,hus,hfds]) (fun u hu=>?_) (fun h0=>⟨_,rfl,fun j u hj=>⟨.inr ⟨rfl,?_⟩,?_⟩⟩) (fun j u d hu hd=>?_)
 ·simp only[us,List.mem_flatMap]at hu
  obtain⟨v,hv,hm⟩:=hu
  exact(i1 v hv).2 u (by simpa using hm)
 ·have:=(qAA.1 hj).1
  rw[qAV,hus]at this;simpa using this
 ·rw[Addr.add_lit,qAS,cell_of_row _ _ j us e' (0,0) (_root_.Go.heap_alloc_new w _)]
  rw[<-qAz];exact hj
 ·exact(i2 j u d (by simpa[us]using hu) hd).keep (hgr.keep hinv.st)
theorem RepD.agg_vals{St:Stab}{w:World}{v:Value}{us:List Value}(h:RepD St w v (.agg (us.map .val))): v=.agg us.toArray:=by
 cases h with
 |agg vs _ hl h1 hr =>
  congr 1
  congr 1
  refine qBk fun j=>?_
  rw[qAE]at hl
  rcases qAF j vs.length with hj|hj
  ·have e1:vs[j]?=some vs[j]:=qAB hj
   have e2:us[j]?=some (us[j]' oM):=qAB oM
   have:=(hr j _ (.val (us[j]' oM)) e1 (by rw[qAJ,e2];rfl)).val_eq
   rw[e1,e2,this]
  ·rw[qAj hj,qAj oM]
theorem zcU{op:BinOp}{yt:TypeId}{us vs:List Value}{r:Value}(hx:oval σ x=.d (.agg (us.map .val)))(hy:oval σ y=.d (.agg (vs.map .val)))
  (hr:∀w,((do eqGuard op t x y (.agg us.toArray) (.agg vs.toArray);binOp op t (.agg us.toArray) (.agg vs.toArray):Sem Value)).run P w=.ok r w):Ylds P η σ ⟨dst,.binOp op t x y yt,ty,pos,after,gd⟩ (.d (.val r)):=by
 refine Ylds.same fun g w a hi h=>⟨r,?_,.val r⟩
 have h1:=h x sO;rw[hx]at h1
 have h2:=h y sO;rw[hy]at h2
 have:=hr w
 simp only[execOp,RepD.agg_vals h1,RepD.agg_vals h2,Sem.run_bind,Sem.run_pure]at this ⊢
 generalize (eqGuard op t x y (.agg us.toArray) (.agg vs.toArray)).run P w=A at this ⊢
 cases A with
 |ok q w'=>simp only[Result.andThen_ok]at this ⊢;rw[this];rfl
 |halt q w'=>simp only[Result.andThen_halt]at this;cases this
end
section
variable {C:Ctx}{dr:Bool}{ops:Array Oper}{rest:List Oper}{K:Sl->List Ob->Prop}{σ:Sl}{η:List Ob}{d:Nat}{ty:TypeId}{pos:String}{after:Array Edge}{gd:Option (Nat×Bool)}{t:TypeId}{x y:Operand}{α:Type}{enc:α->D}{L:List α}
theorem aI{sz:Nat}{n:Int}{k:IntKind}(hc:Co η (oval σ x) (.slice (L.map enc)))(hy:oval σ y=.d (.val (.int k n)))(hs:zBU C.P t=some sz)(hd:Nat.blt d C.N=true)
  (hf:∀v,(enc v).flat.length=sz) (h0:0<=n/\n<(L.length:Int)) (h:∀v,L[n.toNat]?=some v->alex C dr ops rest K ((d,.rptr (enc v).flat)::σ) η) :
  zBJ C dr ops ⟨some d,.indexAddr t x y,ty,pos,after,gd⟩ rest K σ η:=by
 have hlt:n.toNat<L.length:=by omega
 have hv:L[n.toNat]?=some L[n.toNat]:=qAB hlt
 exact ay hd (zKB hc hy hs h0.1 (by rw[qAJ,hv];rfl) (fun d hd=>by obtain⟨v,_,rfl⟩:=qAo.1 hd;exact hf v)) (h _ hv)
theorem aJ{sz:Nat}{n:Int}{k:IntKind}{v:α}(hc:Co η (oval σ x) (.slice (L.map enc)))(hy:oval σ y=.d (.val (.int k n)))(hs:zBU C.P t=some sz)(hv:L[n.toNat]?=some v)(h0:0<=n)(hd:Nat.blt d C.N=true)
  (hf:∀v,(enc v).flat.length=sz) (h:alex C dr ops rest K ((d,.rptr (enc v).flat)::σ) η) :
  zBJ C dr ops ⟨some d,.indexAddr t x y,ty,pos,after,gd⟩ rest K σ η :=
 ay hd (zKB hc hy hs h0 (by rw[qAJ,hv];rfl) (fun d hd=>by obtain⟨v,_,rfl⟩:=qAo.1 hd;exact hf v)) h
theorem aJA{sz:Nat}{n:Int}{k:IntKind}{v:α}(h:alex C dr ops rest K ((d,.rptr (enc v).flat)::σ) η)(hc:Co η (oval σ x) (.slice (L.map enc)):=by first|exact zAr rfl|exact Co_bb rfl rfl rfl|exact Co_nn rfl)(hy:oval σ y=.d (.val (.int k n)):=by exact rfl)(hs:zBU C.P t=some sz:=by with_reducible first|exact zAe|exact zA6|exact zCN|exact zDW|exact zHk|exact zBK|exact zB7|exact zJP)(hv:L[n.toNat]?=some v:=by assumption)(h0:0<=n:=by omega)(hd:Nat.blt d C.N=true:=by exact rfl)(hf:∀v,(enc v).flat.length=sz:=by exact fun _=>rfl): zBJ C dr ops ⟨some d,.indexAddr t x y,ty,pos,after,gd⟩ rest K σ η:=aJ hc hy hs hv h0 hd hf h
end
def FCall(P:Program)(f:FuncId)(ds:List D)(n:Nat)(e sz:Nat)(xs:List D): Prop :=
 ∀(St:Stab) (w:World) (vs:List Value),(∀b o,St b o->b<w.heap.size)->Glob St w->RepDs St w vs ds->
  Calls P f vs.toArray w (fun r w'=>∃ob cap St',r=.returned (.slice (ob.map (⟨·,0,none⟩)) n cap)/\Below w.heap.size w w'/\Keep St w St' w'/\
   (∀b o,St' b o->St b o\/w.heap.size<=b)/\(∀b o,St' b o->b<w'.heap.size)/\cap<=maxLen/\xs.length<=cap/\(∀x∈xs,x.flat.length=sz)/\
   ((ob=none/\cap=0)\/∃b us,ob=some b/\w.heap.size<=b/\w'.heap[b]?=some (.cells us e (0,0))/\us.size=cap*sz/\(∀(j:Nat) (u:Value),j<xs.length*sz->us[j]?=some u->u.oneCell'=true)/\
    (∀(j:Nat) (u:Value) (d:D),us[j]?=some u->(zC2 xs)[j]?=some d->RepD St' w' u d)/\∀o,¬St' b o))
def zce(rs:Array ResultVar)(n e sz:Nat)(xs:List D)(σ:Sl)(η:List Ob): Prop :=
 ∃r,rs = #[.tmp r]/\((get σ r=.nil/\xs=[]/\n=0)\/∃id,get σ r=.buf id n/\η[id]?=some (.buf true e sz xs))
def zBn(rs:Array ResultVar)(n e sz:Nat)(xs:List D): Exit->Sl->List Ob->Prop
 | .ret,σ,η=>zce rs n e sz xs σ η
 |_,_,_=>False
theorem zFG{rs:Array ResultVar}{n e sz:Nat}{xs:List D}{σ:Sl}{η:List Ob}(h:zce rs n e sz xs σ η): zBn rs n e sz xs .ret σ η:=h
theorem zGI{P:Program}{f:FuncId}{fn:Func}{c:Code}{ds:List D}{n e sz:Nat}{xs:List D}{N:Nat}{rs:Array ResultVar}(hf:P.funcs[f]?=some fn)(hb:fn.body=some c)(hN:fn.ntmps=N)(hrs:fn.results=rs)(hl:Nat.ble ds.length N=true)(hxs:∀x∈xs,x.flat.length=sz)
  (h:∀(w0:World) (St0:Stab),awp ⟨P,N,w0,St0,fun _=>False,0⟩ c (zBn rs n e sz xs) (zQD ds 0) []):FCall P f ds n e sz xs:=by
 intro St w vs hst hgl hrep
 subst hN
 have hl:=qAM hl
 have hlen:=hrep.len
 refine calls_of_wp hf hb (h w St _ ?_ _ _ ?_)
 ·intro ex σ' η' a' w' hq ⟨g,ha⟩
  cases ex with
  |ret =>
   obtain⟨r,rfl,hq⟩:=hq
   have hnew:∀b o,g.St b o->St b o\/w.heap.size<=b:=fun b o hb=>by
    rcases ha.new b o hb with h1|h1|h1
    ·exact .inl h1
    ·exact .inr h1
    ·exact h1.elim
   have hbel:Below w.heap.size w w':=⟨ha.os,ha.tape,ha.output,ha.wsize,fun k hk=>ha.heap k hk (fun h=>h)⟩
   refine⟨ha.defers,_,results_tmp hrs _ _ _,?_⟩
   rcases hq with⟨hq,rfl,rfl⟩|⟨id,hq,ho⟩
   ·have:=ha.rep r;rw[hq]at this
    exact⟨none,0,g.St,congrArg Ending.returned this,hbel,ha.keep,hnew,ha.inv.st,qAO _,qAN _,by simp,.inl ⟨rfl,rfl⟩⟩
   ·have:=ha.rep r;rw[hq]at this
    obtain⟨_,hv⟩:=this
    obtain⟨o1,o2,o3,o4,o5⟩:=ha.inv.ob id _ ho
    refine⟨g.blk id,g.cap id,g.St,congrArg Ending.returned hv,hbel,ha.keep,hnew,ha.inv.st,o3,o4,o2,?_⟩
    rcases o5 with o5|⟨b,us,h1,h2,h3,h4,h5,h6⟩
    ·exact .inl o5
    ·refine .inr ⟨b,us,h1,?_,h2,h3,h4,h5,fun o hc=>by have:=(h6 o).1 hc;cases this.1⟩
     rcases ha.own id b h1 (qAO _)with h7|h7
     ·exact h7
     ·exact h7.elim
  |_=>exact hq.elim
 ·refine⟨⟨St,fun _=>none,fun _=>0,fun _=>0,0⟩,rfl,?_,⟨rfl,fun _ _ h=>by simp at h,fun _ _=>rfl,fun _ _ _ h=>by simp at h,fun _ _ h=>by simp at h,hst,hgl⟩,rfl,rfl,rfl,qAN _,fun _ _ _=>rfl,Keep.refl St w,fun _ _ h=>.inl h,fun _ _ h=>by simp at h,?_⟩
  ·simp[hlen];omega
  ·refine zIz vs ds 0 _ hrep fun j v hj=>?_
   have hjl:j<vs.length:=(qAA.1 hj).1
   simp only[qAS,qAQ]
   rw[qAl (by simpa using hjl)]
   simp[hj]
section
variable {C:Ctx}{ops:Array Oper}{rest:List Oper}{K:Sl->List Ob->Prop}{σ:Sl}{η:List Ob}{d:Nat}{ty:TypeId}{pos:String}{after:Array Edge}{gd:Option (Nat×Bool)}
theorem zPE{f:FuncId}{args:List Operand}{ts:Array TypeId}{ds:List D}{n e sz:Nat}{xs:List D}(hb:zAQ C.P f=true)(hc:FCall C.P f ds n e sz xs)(ha:CoL η σ args ds)(hd:Nat.blt d C.N=true)(hro:Nat.ble C.ro η.length=true)
  (h:alex C false ops rest K ((d,.buf η.length n)::σ) (η++[.buf true e sz xs])) :
  zBJ C false ops ⟨some d,.call ⟨.value (.func f),args.toArray,ts⟩,ty,pos,after,gd⟩ rest K σ η:=by
 intro Q hQ a w ⟨g,hg⟩ K' hK'
 have hr:=CoL.rep (a:=a) hg.inv args ds (fun x _=>hg.eval x) ha
 unfold Oper.wp
 have hrun:(execOp a.eval ⟨some d,.call ⟨.value (.func f),args.toArray,ts⟩,ty,pos,after,gd⟩).run C.P w=.ok (.enter f (args.map a.eval).toArray) w:=by
  simp only[execOp,resolve,Act.eval,Deferred.ofValue,invoke,Sem.run_bind,Sem.run_pure,Result.andThen_ok,qA4,qBW,qBq]
  exact zDG hb
 rw[hrun,Oper.upon_enter]
 refine(hc g.St w _ hg.inv.st hg.inv.gl hr).mono fun r w' ⟨ob,cap,St',he,hbel,hkeep,hnew,hlt,hcm,hxc,hfx,hob⟩=>?_
 subst he
 refine hK' _ _ (h Q hQ _ w' ?_)
 have hn:=hg.inv.n
 let g':Gh:={ St:=St',blk:=upd g.blk g.n ob,cap:=upd g.cap g.n cap,sz:=upd g.sz g.n sz,n:=g.n+1 }
 have hold:∀id,id<g.n->g'.blk id=g.blk id/\g'.cap id=g.cap id/\g'.sz id=g.sz id:=fun id hid=>by simp[g',upd,Nat.ne_of_lt hid]
 have hab:=hg.newOb (g':=g') (w':=w') (.buf true e sz xs) hbel.os hbel.tape hbel.output hbel.size hbel.block rfl hold (fun id hid=>by
   have hne:id≠g.n:=by omega
   simp only[g',upd,if_neg hne]
   exact hg.inv.dead id oM) (fun b hb=>by
   have hb:ob=some b:=by simpa[g',upd]using hb
   rcases hob with⟨h1,_⟩|⟨b',us,h1,h2,h3,_⟩
   ·rw[h1]at hb;cases hb
   ·rw[h1]at hb;injection hb with hb;subst hb;exact⟨h2,(qAn.1 h3).1⟩) hkeep.sub hnew hlt (by rw[hn];exact qAM hro)
  ⟨by simp[g',upd],hfx,by simpa[g',upd]using hcm,by simpa[g',upd]using hxc,by
   rcases hob with⟨h1,h2⟩|⟨b',us,h1,h2,h3,h4,h5,h6,h7⟩
   ·exact .inl (by simp[g',upd,h1,h2])
   ·exact .inr ⟨b',us,by simp[g',upd,h1],h3,by simpa[g',upd]using h4,h5,h6,fun o=>⟨fun hc=>absurd hc (h7 o),fun hc=>by cases hc.1⟩⟩⟩
 refine⟨g',hab.put (d:=some d) hd ⟨?_,?_⟩⟩
 ·show η.length<g.n+1;omega
 ·show _=Value.slice ((upd g.blk g.n ob η.length).map _) _ (upd g.cap g.n cap η.length)
  rw[<-hn];simp[upd]
end
def zPc(ds:List D)(sz:Nat): Bool:=ds.all fun d=>Nat.beq d.flat.length sz&&okc d
theorem zDg{ds:List D}{sz:Nat}(h:zPc ds sz=true): (∀d∈ds,d.flat.length=sz)/\ds.all okc=true:=by
 refine⟨fun d hd=>?_,qAI.2 fun d hd=>?_⟩ <;> have:=qAI.1 h d hd <;> simp only[qAR]at this
 ·exact qAX this.1
 ·exact this.2
theorem zCe{α:Type}{enc:α->D}{L:List α}{sz:Nat}(h:∀v,(enc v).flat.length=sz): ∀d∈L.map enc,d.flat.length=sz:=fun d hd=>by obtain⟨v,_,rfl⟩:=qAo.1 hd;exact h v
theorem zDP{ds:List D}{sz:Nat}(h:zPc ds sz=true): ∀d∈ds,d.flat.length=sz:=(zDg h).1
section
variable {P:Program}{η:List Ob}{σ:Sl}{dst:Option Nat}{ty:TypeId}{pos:String}{after:Array Edge}{gd:Option (Nat×Bool)}{t:TypeId}{x y z u:Operand}{sz e:Nat}{ds:List D}
theorem zCI(he:zCB P t=some e)(hs:zBU P t=some sz)(hz:(zBv P e).isSome=true)(hp:Nat.blt 0 sz=true)(hb:Nat.ble (1*sz) 16777216=true)(hc:CoL η σ [x] ds)(hf:zPc ds sz=true): Ylds P η σ ⟨dst,.buildSlice t 1 #[(0,x)],ty,pos,after,gd⟩ (.d (.slice ds)) :=
 zS7 (xs:=[x]) he hs hz hp hb (by rfl) rfl hc (zDg hf).1 (zDg hf).2
theorem zWK(he:zCB P t=some e)(hs:zBU P t=some sz)(hz:(zBv P e).isSome=true)(hp:Nat.blt 0 sz=true)(hb:Nat.ble (2*sz) 16777216=true)(hc:CoL η σ [x,y] ds)(hf:zPc ds sz=true): Ylds P η σ ⟨dst,.buildSlice t 2 #[(0,x),(1,y)],ty,pos,after,gd⟩ (.d (.slice ds)) :=
 zS7 (xs:=[x,y]) he hs hz hp hb (by rfl) rfl hc (zDg hf).1 (zDg hf).2
theorem zY9(he:zCB P t=some e)(hs:zBU P t=some sz)(hz:(zBv P e).isSome=true)(hp:Nat.blt 0 sz=true)(hb:Nat.ble (3*sz) 16777216=true)(hc:CoL η σ [x,y,z] ds)(hf:zPc ds sz=true): Ylds P η σ ⟨dst,.buildSlice t 3 #[(0,x),(1,y),(2,z)],ty,pos,after,gd⟩ (.d (.slice ds)) :=
 zS7 (xs:=[x,y,z]) he hs hz hp hb (by rfl) rfl hc (zDg hf).1 (zDg hf).2
end
section
variable {C:Ctx}{ops:Array Oper}{rest:List Oper}{K:Sl->List Ob->Prop}{σ:Sl}{η:List Ob}{d:Nat}{ty:TypeId}{pos:String}{after:Array Edge}{gd:Option (Nat×Bool)}{t:TypeId}{x y:Operand}{sz e:Nat}{ds:List D}
theorem zNO(he:zCB C.P t=some e)(hs:zBU C.P t=some sz)(hz:(zBv C.P e).isSome=true)(hp:Nat.blt 0 sz=true)(hd:Nat.blt d C.N=true)(hro:Nat.ble C.ro η.length=true)
  (h:alex C false ops rest K ((d,.buf η.length 0)::σ) (η++[.buf false e sz []])):zBJ C false ops ⟨some d,.buildSlice t 0 #[],ty,pos,after,gd⟩ rest K σ η :=
 aLit (xs:=[]) (ds:=[]) he hs hz hp sI rfl zAF sI rfl hd hro (by rfl) h
theorem zdC(he:zCB C.P t=some e)(hs:zBU C.P t=some sz)(hz:(zBv C.P e).isSome=true)(hp:Nat.blt 0 sz=true)(hb:Nat.ble (1*sz) 16777216=true)(hd:Nat.blt d C.N=true)(hro:Nat.ble C.ro η.length=true)(hc:CoL η σ [x] ds)(hf:zPc ds sz=true)
  (h:alex C false ops rest K ((d,.buf η.length ds.length)::σ) (η++[.buf false e sz ds])):zBJ C false ops ⟨some d,.buildSlice t 1 #[(0,x)],ty,pos,after,gd⟩ rest K σ η :=
 aLit (xs:=[x]) he hs hz hp hb rfl hc (zDg hf).1 (zDg hf).2 hd hro (by rfl) h
end
section
variable {C:Ctx}{σ:Sl}{η:List Ob}
theorem zQC{Q:Exit->Sl->List Ob->Prop}{c:Code}(k id:Nat){e sz:Nat}{xs:List D}(_hk:(σ.any fun p=>Nat.beq p.1 k)=true)(ho:η[id]?=some (.buf true e sz xs))(hro:Nat.ble C.ro id=true)(h:awp C c Q σ (η.set id (.buf false e sz xs))): awp C c Q σ η :=
 zHn id ho hro h
end
section
variable {P:Program}{η:List Ob}{σ:Sl}{dst:Option Nat}{ty:TypeId}{pos:String}{after:Array Edge}{gd:Option (Nat×Bool)}{t:TypeId}
end
@[irreducible] def Stop (p:Prop):Prop:=p
theorem Stop.go{p:Prop}(h:p): Stop p:=by unfold Stop;exact h
section
variable {P:Program}{η:List Ob}{σ:Sl}{dst:Option Nat}{ty:TypeId}{pos:String}{after:Array Edge}{gd:Option (Nat×Bool)}{t yt:TypeId}{x y:Operand}
theorem zYQ{k:IntKind}{m n:Int}(hx:oval σ x=.d (.val (.int k m)))(hy:oval σ y=.d (.val (.int k n)))(hn:n≠0): Ylds P η σ ⟨dst,.binOp .quo t x y yt,ty,pos,after,gd⟩ (.d (.val (.int k (k.wrap (m.tdiv n))))) :=
 zG9 hx hy fun w=>by simp[eqGuard_quo,binOp_quo,Op.intDiv,hn]
theorem zLa{k:IntKind}{m n:Int}(hx:oval σ x=.d (.val (.int k m)))(hy:oval σ y=.d (.val (.int k n)))(hn:n≠0): Ylds P η σ ⟨dst,.binOp .rem t x y yt,ty,pos,after,gd⟩ (.d (.val (.int k (m.tmod n)))) :=
 zG9 hx hy fun w=>by simp[eqGuard_rem,binOp_rem,Op.intDiv,hn]
theorem zdI{k k':IntKind}{m n:Int}(hx:oval σ x=.d (.val (.int k m)))(hy:oval σ y=.d (.val (.int k' n)))(hn:0<=n): Ylds P η σ ⟨dst,.binOp .shl t x y yt,ty,pos,after,gd⟩ (.d (.val (.int k (k.wrap (m*2 ^ min n.toNat k.bits))))) :=
 zG9 hx hy fun w=>by simp[eqGuard_shl,binOp,Op.shift,show ¬n<0 by omega]
theorem zdH{k k':IntKind}{m n:Int}(hx:oval σ x=.d (.val (.int k m)))(hy:oval σ y=.d (.val (.int k' n)))(hn:0<=n): Ylds P η σ ⟨dst,.binOp .shr t x y yt,ty,pos,after,gd⟩ (.d (.val (.int k (m.fdiv (2 ^ min n.toNat k.bits))))) :=
 zG9 hx hy fun w=>by simp[eqGuard_shr,binOp,Op.shift,show ¬n<0 by omega]
theorem zGm{k k':IntKind}{src tdst:TypeId}{n:Int}(hx:oval σ x=.d (.val (.int k' n)))(hs:(P.underlying src).isSome=true)(hd:P.underlying tdst=some (.int k)): Ylds P η σ ⟨dst,.convert src tdst x,ty,pos,after,gd⟩ (.d (.val (.int k (k.wrap n)))):=by
 obtain⟨ds,hs⟩:=Option.isSome_iff_exists.1 hs
 refine Ylds.same fun g w a hi h=>⟨.int k (k.wrap n),?_,.val _⟩
 have h1:=h x sO;rw[hx]at h1
 simp only[execOp,convert,RepD.val_eq h1,Sem.run_bind,run_underlying hs,run_underlying hd,Result.andThen_ok]
 cases ds <;> simp[Conv.intToInt]
theorem zdL{a b:ByteArray}(hx:oval σ x=.d (.val (.string a)))(hy:oval σ y=.d (.val (.string b)))(hl:(a.size:Int)+b.size<=9223372036854775807): Ylds P η σ ⟨dst,.binOp .add t x y yt,ty,pos,after,gd⟩ (.d (.val (.string (a++b)))) :=
 zG9 hx hy fun w=>by
  have hm:¬((a.size+b.size:Nat):Int)>IntKind.i64.max:=by
   have:IntKind.i64.max=9223372036854775807:=by decide
   omega
  simp only[eqGuard_add,binOp,Op.stringOp,if_neg hm,Sem.run_bind,Sem.run_pure,Result.andThen_ok]
end
abbrev str(l:List UInt8): D:=.val (.string ⟨l.toArray⟩)
abbrev i64(n:Int): D:=.val (.int .i64 n)
abbrev bl(b:Bool): D:=.val (.bool b)
abbrev u64(n:Int): D:=.val (.int .u64 n)
theorem zDR(l:List UInt8): (⟨l.toArray⟩:ByteArray).size=l.length:=by simp[ByteArray.size]
section
variable {P:Program}{η:List Ob}{σ:Sl}{dst:Option Nat}{ty:TypeId}{pos:String}{after:Array Edge}{gd:Option (Nat×Bool)}{t yt:TypeId}{x y z:Operand}
theorem zDK{l:List UInt8}(hx:oval σ x=.d (str l))(hu:P.underlying t=some .string): Ylds P η σ ⟨dst,.call ⟨.builtin .len, #[x], #[t]⟩,ty,pos,after,gd⟩ (.d (.val (.int .i64 (l.length:Int)))):=by
 have:=zWL (dst:=dst) (ty:=ty) (pos:=pos) (after:=after) (gd:=gd) (η:=η) hx hu
 rwa [zDR]at this
theorem zNS{l:List UInt8}{k:IntKind}{i:Int}(hx:oval σ x=.d (str l))(hy:oval σ y=.d (.val (.int k i)))(hu:P.underlying t=some .string)(h0:0<=i/\i<(l.length:Int)): Ylds P η σ ⟨dst,.index t x y,ty,pos,after,gd⟩ (.d (.val (.int .u8 ((l.getD i.toNat 0).toNat:Int)))):=by
 refine Ylds.same fun g w a hi h=>⟨_,?_,.val _⟩
 have h1:=h x sO;rw[hx]at h1
 have h2:=h y sO;rw[hy]at h2
 have hlt:i.toNat<l.length:=by omega
 have hc:0<=i/\i<((⟨l.toArray⟩:ByteArray).size:Int):=by rw[zDR];exact h0
 simp only[execOp,RepD.val_eq h1,RepD.val_eq h2,Sem.run_bind,run_index_string w t _ k i hu,dif_pos hc,Result.andThen_ok,Sem.run_pure]
 have:(⟨l.toArray⟩:ByteArray)[i.toNat]'(by rw[zDR];exact hlt)=l.getD i.toNat 0:=by
  rw[qAL,qAB hlt];rfl
 rw[this]
theorem zHt{a b:List UInt8}(hx:oval σ x=.d (str a))(hy:oval σ y=.d (str b)): Ylds P η σ ⟨dst,.binOp .eql t x y yt,ty,pos,after,gd⟩ (.d (.val (.bool (decide (a=b))))) :=
 zG9 hx hy fun w=>by
  simp only[eqGuard_at_string,binOp_string_eql,Sem.run_bind,Sem.run_pure,Result.andThen_ok,ByteArray.toList_mk]
  by_cases h:a=b <;> simp[h]
theorem zFL{a b:List UInt8}(hx:oval σ x=.d (str a))(hy:oval σ y=.d (str b)): Ylds P η σ ⟨dst,.binOp .neq t x y yt,ty,pos,after,gd⟩ (.d (.val (.bool (decide (a≠b))))) :=
 zG9 hx hy fun w=>by
  simp only[eqGuard_at_string,binOp_string_neq,Sem.run_bind,Sem.run_pure,Result.andThen_ok,ByteArray.toList_mk]
  by_cases h:a=b <;> simp[h]
theorem zQJ{a b:List UInt8}(hx:oval σ x=.d (str a))(hy:oval σ y=.d (str b))(hl:(a.length:Int)+b.length<=9223372036854775807): Ylds P η σ ⟨dst,.binOp .add t x y yt,ty,pos,after,gd⟩ (.d (str (a++b))):=by
 have:=zdL (P:=P) (η:=η) (dst:=dst) (ty:=ty) (pos:=pos) (after:=after) (gd:=gd) (t:=t) (yt:=yt) hx hy (by rw[zDR,zDR];exact hl)
 rwa [ByteArray.mk_append_mk]at this
theorem zcO{k:IntKind}{n:Int}(hx:oval σ x=.d (.val (.int k n))): Ylds P η σ ⟨dst,.unOp .neg t x,ty,pos,after,gd⟩ (.d (.val (.int k (k.wrap (0-n))))):=Y_un hx rfl
theorem zK5: ∀(ns:List Int) (r:ByteArray),ns.foldl (fun r n=>r.push (UInt8.ofNat n.toNat)) r=⟨r.data++(ns.map fun n=>UInt8.ofNat n.toNat).toArray⟩
 |[],r=>by simp
 |n::ns,r=>by
  rw[List.foldl_cons,zK5 ns]
  simp[ByteArray.push]
theorem zdM{e src tdst:TypeId}{ns:List Int}(hx:oval σ x=.d (.slice (ns.map fun n=>.val (.int .u8 n))))(hs:P.underlying src=some (.slice e))(he:P.underlying e=some (.int .u8))(hd:P.underlying tdst=some .string)(h0:ns≠[]):
  Ylds P η σ ⟨dst,.convert src tdst x,ty,pos,after,gd⟩ (.d (str (ns.map fun n=>UInt8.ofNat n.toNat))):=by
 refine Ylds.same fun g w a hi h=>?_
 have h1:=h x sO;rw[hx]at h1
 change RepD _ _ _ _ at h1
 generalize hv:a.eval x=v at h1
 cases h1 with
 |slice ad len cap sz _ us hlen hcap hm hsz hus h1c hcell hr =>
  have hfl:zC2 (ns.map fun n=>D.val (.int .u8 n))=ns.map fun n=>D.val (.int .u8 n):=by
   clear hv hus hr hcell hlen h hx h0 hsz
   induction ns with
   |nil=>rfl
   |cons n ns ih=>simp only[qA1,zC2,qBM,D.flat]at ih ⊢;rw[ih];rfl
  have hpos:0<(ns.map fun n=>D.val (.int .u8 n)).length:=by
   rw[qAE];cases ns with
   |nil=>exact absurd rfl h0
   |cons=>simp
  obtain⟨ad,rfl,hc⟩:=hcell hpos
  have hul:us.length=ns.length:=by rw[hus,hfl,qAE]
  have eus:us=ns.map (Value.int .u8):=by
   refine qBk fun j=>?_
   rcases qAF j ns.length with hj|hj
   ·have e1:us[j]?=some (us[j]' oM):=qAB oM
    have e2:(zC2 (ns.map fun n=>D.val (.int .u8 n)))[j]?=some (.val (.int .u8 ns[j])):=by rw[hfl,qAJ,qAB hj];rfl
    rw[e1,RepD.val_eq (hr j _ _ e1 e2),qAJ,qAB hj];rfl
   ·rw[qAj oM,qAj pAJ]
  have hld:=run_loadCells_list (P:=P) w ad us (fun j v hj=>(hc j v hj).2)
  refine⟨_,?_,.val _⟩
  have hlen':len=us.length:=by rw[hlen,qAE,hul]
  simp only[execOp,hv,Sem.run_bind,run_convert_bytes_string w src tdst e (some ad) len cap hs he hd]
  rw[run_bytesToString w ad len cap ns (by rw[hlen',hld,eus])]
  simp only[Result.andThen_ok,Sem.run_pure,zK5]
  simp
end
section
variable {C:Ctx}{σ:Sl}{η:List Ob}
theorem AbsG.setIter{g:Gh}{a:Act}{w:World}(h:AbsG C g σ η a w){id b:Nat}{s:ByteArray}{p p':Nat}(hid:η[id]?=some (.iter s p))(hb:g.blk id=some b)(hro:C.ro<=id)
  (hst:∀o,¬g.St b o) :
  AbsG C g σ (η.set id (.iter s p')) a { w with heap:=w.heap.setIfInBounds b (.stringIter s p') }:=by
 have hoth:∀k,k≠b->(w.heap.setIfInBounds b (.stringIter s p'))[k]?=w.heap[k]?:=fun k hk=>by rw[qBZ (fun e=>hk e.symm)]
 have hbl:=h.inv.lt id b hb
 have kp:Keep g.St w g.St { w with heap:=w.heap.setIfInBounds b (.stringIter s p') }:=⟨fun _ _ h=>h,fun c o u hc hu=>(World.cell?_of_block (a:=⟨c,o,none⟩) (hoth c (fun e=>hst o (e▸hc)))).trans hu,fun c hc=>hoth c (fun e=>hst 0 (e▸hc 0))⟩
 have rk:∀{v:Value} {s':SV},RepS g w v s'->RepS g { w with heap:=w.heap.setIfInBounds b (.stringIter s p') } v s':=fun r=>r.ext kp (fun _ _=>⟨rfl,rfl,rfl⟩) (qAN _)
 have hidl:id<η.length:=(qAA.1 hid).1
 refine⟨h.defers,h.size,⟨by rw[qAv];exact h.inv.n,fun i c hc=>by simpa using h.inv.lt i c hc,h.inv.dead,h.inv.inj,fun i o ho=>?_,fun c o hc=>by simpa using h.inv.st c o hc,h.inv.gl.keep kp⟩,h.os,h.tape,h.output,by simpa using h.wsize,
  fun k hk hx=>?_,h.keep.trans kp,h.new,h.own,fun t=>rk (h.rep t)⟩
 ·rw[qAh]at ho
  split at ho
  ·rename_i hc;subst hc
   try rw[if_pos hidl]at ho
   injection ho with ho;subst ho
   exact⟨b,hb,by simp[hbl],hst⟩
  ·rename_i hc
   refine(h.inv.ob i o ho).ext kp (fun _ _=>⟨rfl,rfl,rfl⟩) (qAN _) (by rw[h.inv.n];exact(qAA.1 ho).1) (fun c hcb=>⟨hoth c (fun e=>?_),fun _=>Iff.rfl⟩)
   subst e
   exact hc (h.inv.inj id i c hb hcb)
 ·show (w.heap.setIfInBounds b (.stringIter s p'))[k]?=_
  rw[hoth k (fun e=>?_)]
  ·exact h.heap k hk hx
  ·subst e
   rcases h.own id k hb hro with h2|h2
   ·omega
   ·exact hx h2
theorem zaw{g:Gh}{a:Act}{w:World}{d:Nat}(ha:AbsG C g σ η a w)(s:ByteArray)(hd:Nat.blt d C.N=true)(hro:C.ro<=η.length):
  Abs C ((d,.ptr η.length 0)::σ) (η++[.iter s 0]) (a.put (some d) (.pointer (some ⟨w.heap.size,0,none⟩))) (w.alloc (.stringIter s 0)):=by
 have hn:=ha.inv.n
 let g':Gh:={ g with blk:=upd g.blk g.n (some w.heap.size),n:=g.n+1 }
 have hold:∀id,id<g.n->g'.blk id=g.blk id/\g'.cap id=g.cap id/\g'.sz id=g.sz id:=fun id hid=>⟨by simp[g',upd,Nat.ne_of_lt hid],rfl,rfl⟩
 have hbn:g'.blk g.n=some w.heap.size:=by simp[g',upd]
 have hab:=ha.newOb (g':=g') (w':=w.alloc (.stringIter s 0)) (.iter s 0) rfl rfl rfl sI (fun k hk=>Below.heap_alloc w _ k hk) rfl hold
  (fun id hid=>by
   have hne:id≠g.n:=by omega
   simp only[g',upd,if_neg hne]
   exact ha.inv.dead id oM) (fun b hb=>by rw[hbn]at hb;injection hb with hb;subst hb;simp) (fun _ _ h=>h) (fun _ _ h=>.inl h) (fun b o hb=>qAc (ha.inv.st b o hb) sI) (by rw[hn];exact hro)
  ⟨w.heap.size,hbn,_root_.Go.World.iter_heap w s 0,fun o ho=>absurd (ha.inv.st _ o ho) oM⟩
 exact⟨g',hab.put (d:=some d) hd ⟨by show η.length<g.n+1;omega,w.heap.size,by rw[<-hn];exact hbn,rfl⟩⟩
end
section
variable {C:Ctx}{ops:Array Oper}{rest:List Oper}{K:Sl->List Ob->Prop}{σ:Sl}{η:List Ob}{d:Nat}{ty:TypeId}{pos:String}{after:Array Edge}{gd:Option (Nat×Bool)}{t:TypeId}{x:Operand}
theorem zcH{s:ByteArray}(hx:oval σ x=.d (.val (.string s)))(hu:C.P.underlying t=some .string)(hd:Nat.blt d C.N=true)(hro:Nat.ble C.ro η.length=true)
  (h:alex C false ops rest K ((d,.ptr η.length 0)::σ) (η++[.iter s 0])):zBJ C false ops ⟨some d,.range t x,ty,pos,after,gd⟩ rest K σ η:=by
 refine zIo (fun g a w ha=>?_) h
 have hr:=ha.eval x
 rw[hx]at hr
 refine⟨_,_,?_,zaw ha s hd (qAM hro)⟩
 simp only[execOp,RepD.val_eq hr,Sem.run_bind,run_range_string w t s hu,Result.andThen_ok,Sem.run_pure]
 rfl
theorem zdA{id p:Nat}{s:ByteArray}(hx:oval σ x=.ptr id 0)(ho:η[id]?=some (.iter s p))(hd:Nat.blt d C.N=true)(hro:Nat.ble C.ro id=true)
  (h1:p<s.size->alex C false ops rest K ((d,.d (.tup [.val (.bool true),.val (.int .i64 (p:Int)),.val (.int .i32 ((Utf8.decode s p).1:Int))]))::σ) (η.set id (.iter s (p+(Utf8.decode s p).2))))
  (h2:¬p<s.size->alex C false ops rest K ((d,.d (.tup [.val (.bool false)]))::σ) η):zBJ C false ops ⟨some d,.next x true,ty,pos,after,gd⟩ rest K σ η:=by
 by_cases hc:p<s.size
 ·refine zIo (fun g a w ha=>?_) (h1 hc)
  have hr:=ha.eval x
  rw[hx]at hr
  obtain⟨hidn,b,hb,hv⟩:=hr
  obtain⟨b',hb',hh,hst⟩:=ha.inv.ob id _ ho
  rw[hb]at hb';injection hb' with hb';subst hb'
  have hbl:=ha.inv.lt id b hb
  have hh':w.heap[b]'hbl=.stringIter s p:=by
   have:=qAP hbl;rw[hh]at this;injection this with this;exact this.symm
  refine⟨.tuple #[.bool true,.int .i64 (p:Int),.int .i32 ((Utf8.decode s p).1:Int)],_,?_,g,(ha.setIter (p':=p+(Utf8.decode s p).2) ho hb (qAM hro) hst).put (d:=some d) hd ?_⟩
  ·simp only[execOp,hv,Instr.next,getObj,setObj,Sem.run_bind,Sem.run,hh,Result.andThen,hc,if_true]
   simp[goInt]
  ·refine .tup [_,_,_] _ rfl fun j u d' hu hd'=>?_
   match j with
   |0=>simp at hu hd';subst hu;subst hd';exact .val _
   |1=>simp at hu hd';subst hu;subst hd';exact .val _
   |2=>simp at hu hd';subst hu;subst hd';exact .val _
   |j+3=>simp at hu
 ·refine zIo (fun g a w ha=>?_) (h2 hc)
  have hr:=ha.eval x
  rw[hx]at hr
  obtain⟨hidn,b,hb,hv⟩:=hr
  obtain⟨b',hb',hh,hst⟩:=ha.inv.ob id _ ho
  rw[hb]at hb';injection hb' with hb';subst hb'
  refine⟨.tuple #[.bool false],w,?_,g,ha.put (d:=some d) hd ?_⟩
  ·simp[execOp,hv,Instr.next,getObj,Sem.run,hh,hc]
  ·refine .tup [_] _ rfl fun j u d' hu hd'=>?_
   match j with
   |0=>simp at hu hd';subst hu;subst hd';exact .val _
   |j+1=>simp at hu
end
theorem RepDs.vals{St:Stab}{w:World}: ∀{vs us:List Value},RepDs St w vs (us.map .val)->vs=us
 |[],[],_=>rfl
 |v::vs,u::us,h=>by rw[RepD.val_eq h.1,RepDs.vals h.2]
 |[],_::_,h=>h.elim
 |_::_,[],h=>h.elim
theorem zHy{P:Program}{f:FuncId}{us:List Value}{r:Value}{d:D}(hd:∀St w,RepD St w r d)
  (h:∀St w,Glob St w->Calls P f us.toArray w (fun e w'=>e=.returned r/\Below w.heap.size w w')):zAX P f (us.map .val) d:=by
 intro St w vs hst hgl hr
 rw[RepDs.vals hr]
 refine(h St w hgl).mono fun e w' ⟨he,hb⟩=>⟨r,St,he,hd St w',hb,⟨fun _ _ h=>h,fun b o u hc hu=>(World.cell?_of_block (a:=⟨b,o,none⟩) (hb.block b (hst b o hc))).trans hu,fun b hc=>hb.block b (hst b 0 (hc 0))⟩,fun b o h=>.inl h,fun b o h=>qAc (hst b o h) hb.size⟩
end Go.Sx
namespace Go.Sx
section
variable {P:Program}{η:List Ob}{σ:Sl}{dst:Option Nat}{ty:TypeId}{pos:String}{after:Array Edge}{gd:Option (Nat×Bool)}{t yt:TypeId}{x y:Operand}{k:IntKind}{m n:Int}
theorem Y_as{o:Oper}{b c:Bool}(h:Ylds P η σ o (.d (.val (.bool b))))(e:b=c): Ylds P η σ o (.d (.val (.bool c))):=by subst e;exact h
theorem zA9(hx:oval σ x=.d (.val (.int k m)))(hy:oval σ y=.d (.val (.int k n)))(h:m<n:=by first|assumption|omega): Ylds P η σ ⟨dst,.binOp .lss t x y yt,ty,pos,after,gd⟩ (.d (.val (.bool true))):=Y_as (zCt hx hy) (decide_eq_true h)
theorem zBr(hx:oval σ x=.d (.val (.int k m)))(hy:oval σ y=.d (.val (.int k n)))(h:¬m<n:=by first|assumption|omega): Ylds P η σ ⟨dst,.binOp .lss t x y yt,ty,pos,after,gd⟩ (.d (.val (.bool false))):=Y_as (zCt hx hy) (decide_eq_false h)
theorem zcQ(hx:oval σ x=.d (.val (.int k m)))(hy:oval σ y=.d (.val (.int k n)))(h:m<=n:=by first|assumption|omega): Ylds P η σ ⟨dst,.binOp .leq t x y yt,ty,pos,after,gd⟩ (.d (.val (.bool true))):=Y_as (zI3 hx hy) (decide_eq_true h)
theorem zcR(hx:oval σ x=.d (.val (.int k m)))(hy:oval σ y=.d (.val (.int k n)))(h:¬m<=n:=by first|assumption|omega): Ylds P η σ ⟨dst,.binOp .leq t x y yt,ty,pos,after,gd⟩ (.d (.val (.bool false))):=Y_as (zI3 hx hy) (decide_eq_false h)
theorem zDk(hx:oval σ x=.d (.val (.int k m)))(hy:oval σ y=.d (.val (.int k n)))(h:m>n:=by first|assumption|omega): Ylds P η σ ⟨dst,.binOp .gtr t x y yt,ty,pos,after,gd⟩ (.d (.val (.bool true))):=Y_as (zF4 hx hy) (decide_eq_true h)
theorem zDL(hx:oval σ x=.d (.val (.int k m)))(hy:oval σ y=.d (.val (.int k n)))(h:¬m>n:=by first|assumption|omega): Ylds P η σ ⟨dst,.binOp .gtr t x y yt,ty,pos,after,gd⟩ (.d (.val (.bool false))):=Y_as (zF4 hx hy) (decide_eq_false h)
theorem zRs(hx:oval σ x=.d (.val (.int k m)))(hy:oval σ y=.d (.val (.int k n)))(h:m>=n:=by first|assumption|omega): Ylds P η σ ⟨dst,.binOp .geq t x y yt,ty,pos,after,gd⟩ (.d (.val (.bool true))):=Y_as (zFU hx hy) (decide_eq_true h)
theorem zMR(hx:oval σ x=.d (.val (.int k m)))(hy:oval σ y=.d (.val (.int k n)))(h:¬m>=n:=by first|assumption|omega): Ylds P η σ ⟨dst,.binOp .geq t x y yt,ty,pos,after,gd⟩ (.d (.val (.bool false))):=Y_as (zFU hx hy) (decide_eq_false h)
theorem zBH(hx:oval σ x=.d (.val (.int k m)))(hy:oval σ y=.d (.val (.int k n)))(h:m=n:=by first|assumption|omega): Ylds P η σ ⟨dst,.binOp .eql t x y yt,ty,pos,after,gd⟩ (.d (.val (.bool true))):=Y_as (zDz hx hy) (decide_eq_true h)
theorem zBA(hx:oval σ x=.d (.val (.int k m)))(hy:oval σ y=.d (.val (.int k n)))(h:¬m=n:=by first|assumption|omega): Ylds P η σ ⟨dst,.binOp .eql t x y yt,ty,pos,after,gd⟩ (.d (.val (.bool false))):=Y_as (zDz hx hy) (decide_eq_false h)
theorem zCC(hx:oval σ x=.d (.val (.int k m)))(hy:oval σ y=.d (.val (.int k n)))(h:m≠n:=by first|assumption|omega): Ylds P η σ ⟨dst,.binOp .neq t x y yt,ty,pos,after,gd⟩ (.d (.val (.bool true))):=Y_as (zEp hx hy) (decide_eq_true h)
theorem zBQ(hx:oval σ x=.d (.val (.int k m)))(hy:oval σ y=.d (.val (.int k n)))(h:¬m≠n:=by first|assumption|omega): Ylds P η σ ⟨dst,.binOp .neq t x y yt,ty,pos,after,gd⟩ (.d (.val (.bool false))):=Y_as (zEp hx hy) (decide_eq_false h)
theorem zJj{a b:List UInt8}(hx:oval σ x=.d (str a))(hy:oval σ y=.d (str b))(h:a=b): Ylds P η σ ⟨dst,.binOp .eql t x y yt,ty,pos,after,gd⟩ (.d (.val (.bool true))):=Y_as (zHt hx hy) (decide_eq_true h)
end
section
variable {C:Ctx}{ops:Array Oper}{rest:List Oper}{K:Sl->List Ob->Prop}{σ:Sl}{η:List Ob}{d:Nat}{op:Op}{ty:TypeId}{pos:String}{after:Array Edge}{j t:Nat}{want:Bool}
theorem zG8{gd:Option (Nat×Bool)}(hw:∀g a w,AbsG C g σ η a w->Region.wanted (⟨some d,op,ty,pos,after,gd⟩:Oper) (yielded ops a.tmps)=false)(hd:Nat.blt d C.N=true)(h:alex C false ops rest K ((d,.d (.val undef))::σ) η):
  alex C false ops (⟨some d,op,ty,pos,after,gd⟩::rest) K σ η:=by
 intro Q hQ a w ⟨g,ha⟩
 refine wpList_step fun K' hK'=>?_
 rw[if_neg (by rw[hw g a w ha];simp)]
 exact hK' _ _ (h Q hQ _ w ⟨g,ha.put (d:=some d) hd (.val undef)⟩)
theorem kU(h1:(ops[j]?).bind (·.dst)=some t)(h2:get σ t=.d (.val undef))(hd:Nat.blt d C.N=true)(h:alex C false ops rest K ((d,.d (.val undef))::σ) η):
  alex C false ops (⟨some d,op,ty,pos,after,some (j,want)⟩::rest) K σ η:=by
 refine zG8 (fun g a w ha=>?_) hd h
 have hv:=ha.rep t
 rw[h2]at hv
 have hv:=RepD.val_eq hv
 unfold Region.wanted
 have:yielded ops a.tmps j=none:=by
  simp only[yielded,h1,qBQ]
  rcases qAF t a.tmps.size with hl|hl
  ·rw[qAQ,qAP hl]at hv
   rw[qAP hl]
   simp only[qBE]at hv
   rw[hv];rfl
  ·rw[Array.getElem?_eq_none hl]
 simp only[this];rfl
theorem k1u(h1:(ops[j]?).bind (·.dst)=some t)(h2:get σ t=.d (.val (.bool false)))(hd:Nat.blt d C.N=true)(h:alex C false ops rest K ((d,.d (.val undef))::σ) η):
  alex C false ops (⟨some d,op,ty,pos,after,some (j,true)⟩::rest) K σ η :=
 zG8 (fun g a w ha=>(show Wants ops σ (some (j,true)) false from⟨t,h1,by simpa using h2⟩).wanted (o:=⟨some d,op,ty,pos,after,some (j,true)⟩) (fun t _ _ _ _=>ha.rep t)) hd h
theorem k0u(h1:(ops[j]?).bind (·.dst)=some t)(h2:get σ t=.d (.val (.bool true)))(hd:Nat.blt d C.N=true)(h:alex C false ops rest K ((d,.d (.val undef))::σ) η):
  alex C false ops (⟨some d,op,ty,pos,after,some (j,false)⟩::rest) K σ η :=
 zG8 (fun g a w ha=>(show Wants ops σ (some (j,false)) false from⟨t,h1,by simpa using h2⟩).wanted (o:=⟨some d,op,ty,pos,after,some (j,false)⟩) (fun t _ _ _ _=>ha.rep t)) hd h
theorem kUd(h1:(ops[j]?).bind (·.dst)=some t)(h2:get σ t=.d (.val undef))(hd:Nat.blt d C.N=true)(h:alex C true ops rest K ((d,.d (.val undef))::σ) η):
  alex C true ops (⟨some d,op,ty,pos,after,some (j,want)⟩::rest) K σ η :=
 .inl ⟨_,.inr ⟨.inr ⟨j,want,t,rfl,h1,h2⟩,.inr rfl⟩,hd,h⟩
theorem k1ud(h1:(ops[j]?).bind (·.dst)=some t)(h2:get σ t=.d (.val (.bool false)))(hd:Nat.blt d C.N=true)(h:alex C true ops rest K ((d,.d (.val undef))::σ) η):
  alex C true ops (⟨some d,op,ty,pos,after,some (j,true)⟩::rest) K σ η :=
 .inl ⟨_,.inr ⟨.inl ⟨t,h1,by simpa using h2⟩,.inr rfl⟩,hd,h⟩
theorem k0ud(h1:(ops[j]?).bind (·.dst)=some t)(h2:get σ t=.d (.val (.bool true)))(hd:Nat.blt d C.N=true)(h:alex C true ops rest K ((d,.d (.val undef))::σ) η):
  alex C true ops (⟨some d,op,ty,pos,after,some (j,false)⟩::rest) K σ η :=
 .inl ⟨_,.inr ⟨.inl ⟨t,h1,by simpa using h2⟩,.inr rfl⟩,hd,h⟩
end
section
variable {C:Ctx}{ops:Array Oper}{rest:List Oper}{K:Sl->List Ob->Prop}{σ:Sl}{η:List Ob}{d:Nat}{ty:TypeId}{pos:String}{after:Array Edge}{gd:Option (Nat×Bool)}{t:TypeId}{x y z u:Operand}{sz e:Nat}{ds:List D}
end
open Go.RowKit
def SV.ren(ids:List Nat): SV->SV
 | .ptr i o=>.ptr (ids.getD i 0) o
 | .bptr i k o=>.bptr (ids.getD i 0) k o
 | .buf i n=>.buf (ids.getD i 0) n
 | .bsl i k n=>.bsl (ids.getD i 0) k n
 | .clo f l=>.clo f (l.map fun i=>ids.getD i 0)
 | .mp i=>.mp (ids.getD i 0)
 | .pair a b=>.pair (a.ren ids) (b.ren ids)
 |s=>s
def Ob.ren(ids:List Nat): Ob->Ob
 | .bx k et cs=>.bx k et (cs.map (SV.ren ids))
 | .miter m since seen st=>.miter (ids.getD m 0) since seen st
 |o=>o
def Ob.forget: Ob->Ob
 | .bx _ et cs=>.bx none et cs
 | .mapq q _ l=>.mapq q none l
 |o=>o
def Ob.back: Ob->Ob->Ob
 | .bx k _ _,.bx _ et cs=>.bx k et cs
 | .mapq _ k _,.mapq q _ l=>.mapq q k l
 |_,n=>n
def zDx: Ob->Nat
 | .bx _ _ _=>1
 | .mapq _ _ _=>2
 |_=>0
def zH4: Ob->Bool
 | .bx _ _ _=>true
 | .mapq _ _ _=>true
 |_=>false
def SV.wipe(bufs all:List Nat): SV->SV
 | .ptr i o=>match bufs.any (Nat.beq i)with
  |true=>.top
  |false=>.ptr i o
 | .bptr i k o=>match all.any (Nat.beq i)with
  |true=>.top
  |false=>.bptr i k o
 | .buf i n=>match all.any (Nat.beq i)with
  |true=>.top
  |false=>.buf i n
 | .bsl i k n=>match all.any (Nat.beq i)with
  |true=>.top
  |false=>.bsl i k n
 | .clo f l=>match l.any fun i=>bufs.any (Nat.beq i)with
  |true=>.top
  |false=>.clo f l
 | .mp i=>match bufs.any (Nat.beq i)with
  |true=>.top
  |false=>.mp i
 | .pair a b=>.pair (a.wipe bufs all) (b.wipe bufs all)
 |s=>s
def zGo(bufs all:List Nat): Sl->Sl
 |[]=>[]
 |(k,s)::r=>(k,s.wipe bufs all)::zGo bufs all r
def Ob.wipe(bufs all:List Nat): Ob->Ob
 | .bx k et cs=>.bx k et (cs.map (SV.wipe bufs all))
 | .miter m since seen st=>match bufs.any (Nat.beq m)with
  |true=>.gone
  |false=>.miter m since seen st
 |o=>o
def zFC(bufs all:List Nat): List Ob->List Ob
 |[]=>[]
 |o::r=>o.wipe bufs all::zFC bufs all r
def zEX: List Ob->List Nat->List Ob->List Ob
 |η,i::is,p::ps=>zEX (η.set i (Ob.back (η.getD i .gone) p)) is ps
 |η,_,_=>η
def zCF: List Nat->List Ob->List Nat
 |i::is,o::r=>match zH4 o with
  |true=>zCF is r
  |false=>i::zCF is r
 |_,_=>[]
theorem zQE{l:List Nat}{i:Nat}: l.any (Nat.beq i)=true↔i∈l:=by
 rw[qBK]
 exact⟨fun ⟨x,h1,h2⟩=>by rw[qAX h2];exact h1,fun h=>⟨i,h,Nat.beq_refl i⟩⟩
theorem zEM{l:List Nat}{i:Nat}(h:l.any (Nat.beq i)=false): i∉l:=fun hm=>by
 rw[zQE.2 hm]at h;cases h
theorem zM0(bufs all:List Nat): ∀(σ:Sl) (t:Nat),get (zGo bufs all σ) t=(get σ t).wipe bufs all
 |[],t=>rfl
 |(k,s)::r,t=>by
  unfold zGo
  rw[zBl,zBl]
  split
  ·rfl
  ·exact zM0 bufs all r t
theorem zDC(bufs all:List Nat): ∀(η:List Ob),(zFC bufs all η).length=η.length
 |[]=>rfl
 |_::r=>by simp[zFC,zDC bufs all r]
theorem zGW(bufs all:List Nat): ∀(η:List Ob) (i:Nat),(zFC bufs all η)[i]?=(η[i]?).map (Ob.wipe bufs all)
 |[],i=>by simp[zFC]
 |o::r,0=>by simp[zFC]
 |o::r,i+1=>by simp[zFC,zGW bufs all r i]
theorem RepS.wipe{g g':Gh}{w w':World}{v:Value}{s:SV}{bufs all:List Nat}(k:Keep g.St w g'.St w')(h1:∀i,i<g.n->i∉all->g'.blk i=g.blk i/\g'.cap i=g.cap i/\g'.sz i=g.sz i)(h2:∀i,i<g.n->i∉bufs->g'.blk i=g.blk i)(hn:g.n<=g'.n)
  (r:RepS g w v s):RepS g' w' v (s.wipe bufs all):=by
 induction s generalizing v with
 |d d=>exact RepD.keep k r
 |nil=>exact r
 |ptr i off =>
  cases he:bufs.any (Nat.beq i)with
  |true=>simp only[SV.wipe,he];trivial
  |false =>
   simp only[SV.wipe,he]
   obtain⟨q1,b,q2,q3⟩:=r
   exact⟨by omega,b,by rw[h2 i q1 (zEM he)];exact q2,q3⟩
 |rptr cs =>
  obtain⟨ad,us,q1,q2,q3,q4,q5⟩:=r
  exact⟨ad,us,q1,q2,q3,fun j u hu=>(q4 j u hu).keep k,fun j u d hu hd=>(q5 j u d hu hd).keep k⟩
 |bptr i j off =>
  cases he:all.any (Nat.beq i)with
  |true=>simp only[SV.wipe,he];trivial
  |false =>
   simp only[SV.wipe,he]
   obtain⟨q1,b,q2,q3⟩:=r
   exact⟨by omega,b,by rw[(h1 i q1 (zEM he)).1];exact q2,by rw[(h1 i q1 (zEM he)).2.2];exact q3⟩
 |buf i n =>
  cases he:all.any (Nat.beq i)with
  |true=>simp only[SV.wipe,he];trivial
  |false =>
   simp only[SV.wipe,he]
   obtain⟨q1,q2⟩:=r
   exact⟨by omega,by rw[(h1 i q1 (zEM he)).1,(h1 i q1 (zEM he)).2.1];exact q2⟩
 |bsl i k n =>
  cases he:all.any (Nat.beq i)with
  |true=>simp only[SV.wipe,he];trivial
  |false =>
   simp only[SV.wipe,he]
   obtain⟨q1,q2⟩:=r
   exact⟨by omega,by rw[(h1 i q1 (zEM he)).1,(h1 i q1 (zEM he)).2.1,(h1 i q1 (zEM he)).2.2];exact q2⟩
 |clo f l =>
  cases he:(l.any fun i=>bufs.any (Nat.beq i))with
  |true=>simp only[SV.wipe,he];trivial
  |false =>
   simp only[SV.wipe,he]
   obtain⟨vs,q1,q2,q3⟩:=r
   refine⟨vs,q1,q2,fun j id u hj hu=>?_⟩
   obtain⟨q4,b,q5,q6⟩:=q3 j id u hj hu
   have hnb:id∉bufs:=by
    have:=qBT.1 he id (qAC hj)
    exact fun hm=>this (zQE.2 hm)
   exact⟨by omega,b,by rw[h2 id q4 hnb];exact q5,q6⟩
 |mp i =>
  cases he:bufs.any (Nat.beq i)with
  |true=>simp only[SV.wipe,he];trivial
  |false =>
   simp only[SV.wipe,he]
   obtain⟨q1,b,q2,q3⟩:=r
   exact⟨by omega,b,by rw[h2 i q1 (zEM he)];exact q2,q3⟩
 |pair a b ha hb=>obtain⟨u1,u2,q1,q2,q3⟩:=r;exact⟨u1,u2,q1,ha q2,hb q3⟩
 |p φ=>exact r
 |top=>trivial
theorem RepS.ren{g g2:Gh}{w:World}{v:Value}{s:SV}{ids:List Nat}(hst:g2.St=g.St)(hm:∀j,j<g.n->ids.getD j 0<g2.n/\g2.blk (ids.getD j 0)=g.blk j/\g2.cap (ids.getD j 0)=g.cap j/\g2.sz (ids.getD j 0)=g.sz j)
  (r:RepS g w v s):RepS g2 w v (s.ren ids):=by
 induction s generalizing v with
 |d d=>show RepD g2.St w v d;rw[hst];exact r
 |nil=>exact r
 |ptr i off=>obtain⟨q1,b,q2,q3⟩:=r;obtain⟨e1,e2,_,_⟩:=hm i q1;exact⟨e1,b,by rw[e2];exact q2,q3⟩
 |rptr cs =>
  obtain⟨ad,us,q1,q2,q3,q4,q5⟩:=r
  exact⟨ad,us,q1,q2,q3,fun j u hu=>by rw[hst];exact q4 j u hu,fun j u d hu hd=>by rw[hst];exact q5 j u d hu hd⟩
 |bptr i j off=>obtain⟨q1,b,q2,q3⟩:=r;obtain⟨e1,e2,_,e4⟩:=hm i q1;exact⟨e1,b,by rw[e2];exact q2,by rw[e4];exact q3⟩
 |buf i n=>obtain⟨q1,q2⟩:=r;obtain⟨e1,e2,e3,_⟩:=hm i q1;exact⟨e1,by rw[e2,e3];exact q2⟩
 |bsl i k n=>obtain⟨q1,q2⟩:=r;obtain⟨e1,e2,e3,e4⟩:=hm i q1;exact⟨e1,by rw[e2,e3,e4];exact q2⟩
 |clo f l =>
  obtain⟨vs,q1,q2,q3⟩:=r
  refine⟨vs,q1,by simpa using q2,fun j id u hj hu=>?_⟩
  rw[qAJ]at hj
  cases hl:l[j]? with
  |none=>simp[hl]at hj
  |some i0 =>
   simp[hl]at hj;subst hj
   obtain⟨q4,b,q5,q6⟩:=q3 j i0 u hl hu
   obtain⟨e1,e2,_,_⟩:=hm i0 q4
   simp only[qAL]at e1 e2
   exact⟨e1,b,by rw[e2];exact q5,q6⟩
 |mp i=>obtain⟨q1,b,q2,q3⟩:=r;obtain⟨e1,e2,_,_⟩:=hm i q1;exact⟨e1,b,by rw[e2];exact q2,q3⟩
 |pair a b ha hb=>obtain⟨u1,u2,q1,q2,q3⟩:=r;exact⟨u1,u2,q1,ha q2,hb q3⟩
 |p φ=>exact r
 |top=>trivial
theorem RepS.unren{g g2:Gh}{w:World}{v:Value}{s:SV}{ids:List Nat}(hst:g.St=g2.St)(hs:s.bel g.n=true)(hm:∀j,j<g.n->g2.blk (ids.getD j 0)=g.blk j/\g2.cap (ids.getD j 0)=g.cap j/\g2.sz (ids.getD j 0)=g.sz j)
  (r:RepS g2 w v (s.ren ids)):RepS g w v s:=by
 have bl:∀{i:Nat},Nat.blt i g.n=true->i<g.n:=fun h=>by simpa using h
 induction s generalizing v with
 |d d=>show RepD g.St w v d;rw[hst];exact r
 |nil=>exact r
 |ptr i off=>obtain⟨q1,b,q2,q3⟩:=r;obtain⟨e2,_,_⟩:=hm i (bl hs);exact⟨bl hs,b,by rw[<-e2];exact q2,q3⟩
 |rptr cs =>
  obtain⟨ad,us,q1,q2,q3,q4,q5⟩:=r
  exact⟨ad,us,q1,q2,q3,fun j u hu=>by rw[hst];exact q4 j u hu,fun j u d hu hd=>by rw[hst];exact q5 j u d hu hd⟩
 |bptr i j off=>obtain⟨q1,b,q2,q3⟩:=r;obtain⟨e2,_,e4⟩:=hm i (bl hs);exact⟨bl hs,b,by rw[<-e2];exact q2,by rw[<-e4];exact q3⟩
 |buf i n=>obtain⟨q1,q2⟩:=r;obtain⟨e2,e3,_⟩:=hm i (bl hs);exact⟨bl hs,by rw[<-e2,<-e3];exact q2⟩
 |bsl i k n=>obtain⟨q1,q2⟩:=r;obtain⟨e2,e3,e4⟩:=hm i (bl hs);exact⟨bl hs,by rw[<-e2,<-e3,<-e4];exact q2⟩
 |clo f l =>
  obtain⟨vs,q1,q2,q3⟩:=r
  refine⟨vs,q1,by simpa using q2,fun j id u hj hu=>?_⟩
  have hlt:=bl (qAI.1 hs id (qAC hj))
  obtain⟨q4,b,q5,q6⟩:=q3 j (ids.getD id 0) u (by rw[qAJ,hj];rfl) hu
  obtain⟨e2,_,_⟩:=hm id hlt
  exact⟨hlt,b,by rw[<-e2];exact q5,q6⟩
 |mp i=>obtain⟨q1,b,q2,q3⟩:=r;obtain⟨e2,_,_⟩:=hm i (bl hs);exact⟨bl hs,b,by rw[<-e2];exact q2,q3⟩
 |pair a b ha hb =>
  simp only[SV.bel,qAR]at hs
  obtain⟨u1,u2,q1,q2,q3⟩:=r;exact⟨u1,u2,q1,ha hs.1 q2,hb hs.2 q3⟩
 |p φ=>exact r
 |top=>trivial
structure Frame(g:Gh)(w:World)(pre:List Ob)(g':Gh)(w':World): Prop where
 os:w'.os=w.os
 tape:w'.tape=w.tape
 output:w'.output=w.output
 size:w.heap.size<=w'.heap.size
 heap:∀k,k<w.heap.size->(∀j,g.blk j≠some k)->w'.heap[k]?=w.heap[k]?
 keep:Keep g.St w g'.St w'
 new:∀b o,g'.St b o->g.St b o\/w.heap.size<=b\/∃j,g.blk j=some b
 own:∀j b,g'.blk j=some b->w.heap.size<=b\/∃i,g.blk i=some b
 box:∀j o,pre[j]?=some o->zH4 o=true->g'.blk j=g.blk j
def RepSs(g:Gh)(w:World): List Value->List SV->Prop
 |[],[]=>True
 |v::vs,s::ss=>RepS g w v s/\RepSs g w vs ss
 |_,_=>False
def zBR(P:Program)(f:FuncId)(as:List SV)(pre:List Ob)(res:SV)(post:List Ob): Prop :=
 ∀(g:Gh) (w:World) (vs:List Value),Inv g w pre->RepSs g w vs as->
  Calls P f vs.toArray w (fun e w'=>∃v g',e=.returned v/\Inv g' w' post/\RepS g' w' v res/\Frame g w pre g' w')
def anch1(k:Option Nat): Ob->Ob
 | .bx _ et cs=>.bx k et cs
 | .mapq q _ l=>.mapq q k l
 |o=>o
def anch(f:Nat->Option Nat): Nat->List Ob->List Ob->List Ob
 |i,_::pre,o::post=>anch1 (f i) o::anch f (i+1) pre post
 |_,_,post=>post
theorem zI0(f:Nat->Option Nat): ∀(pre l:List Ob) (i j:Nat),(anch f i pre l)[j]?=(l[j]?).map fun o=>if j<pre.length then anch1 (f (i+j)) o else o
 |[],l,i,j=>by cases l <;> simp[anch]
 |_::_,[],i,j=>by simp[anch]
 |_::pre,o::r,i,0=>by simp[anch]
 |_::pre,o::r,i,j+1=>by
  have:=zI0 f pre r (i+1) j
  rw[show i+(j+1)=i+1+j by omega]
  simp only[anch,List.getElem?_cons_succ,qAK,Nat.add_lt_add_iff_right];exact this
theorem zGN(f:Nat->Option Nat): ∀(pre l:List Ob) (i:Nat),(anch f i pre l).length=l.length
 |[],l,_=>by cases l <;> rfl
 |_::_,[],_=>rfl
 |_::pre,o::r,i=>by simp[anch,zGN f pre r (i+1)]
def zPW: Ob->Bool
 | .bx (some _) _ _=>false
 | .mapq _ (some _) _=>false
 |_=>true
theorem ObOk.anch1{g:Gh}{w:World}{id:Nat}{o:Ob}(h:ObOk g w id o): ObOk g w id (anch1 (g.blk id) o):=by
 cases o with
 |bx k et cs =>
  obtain⟨b,e,us,h1,h2,h3,h4,h5,h6,h7⟩:=h
  exact⟨b,e,us,h1,h2,h3,h4,h5,h6,⟨fun c hc=>by rw[h1]at hc;injection hc with hc;exact hc.symm,h7.2⟩⟩
 |mapq q k l =>
  obtain⟨b,es,ck,h1,h2,h3,h4,h5,h6,h7⟩:=h
  exact⟨b,es,ck,h1,h2,h3,h4,h5,fun c hc=>by rw[h1]at hc;injection hc with hc;exact hc.symm,h7⟩
 |_=>exact h
theorem ObOk.unanch1{g:Gh}{w:World}{id:Nat}{k:Option Nat}{o:Ob}(hn:zPW o=true)(h:ObOk g w id (Sx.anch1 k o)): ObOk g w id o/\(zH4 o=true->∃b,g.blk id=some b/\∀c,k=some c->c=b):=by
 cases o with
 |bx k0 et cs =>
  obtain⟨b,e,us,h1,h2,h3,h4,h5,h6,h7⟩:=h
  refine⟨?_,fun _=>⟨b,h1,h7.1⟩⟩
  cases k0 with
  |none=>exact⟨b,e,us,h1,h2,h3,h4,h5,h6,fun _ hc=>(by cases hc),h7.2⟩
  |some c=>cases hn
 |mapq q k0 l =>
  obtain⟨b,es,ck,h1,h2,h3,h4,h5,h6,h7⟩:=h
  refine⟨?_,fun _=>⟨b,h1,h6⟩⟩
  cases k0 with
  |none=>exact⟨b,es,ck,h1,h2,h3,h4,h5,fun _ hc=>(by cases hc),h7⟩
  |some c=>cases hn
 |buf mu e sz xs=>exact⟨h,fun hb=>by cases hb⟩
 |iter s p=>exact⟨h,fun hb=>by cases hb⟩
 |miter m since seen st=>exact⟨h,fun hb=>by cases hb⟩
 |gone=>exact⟨trivial,fun hb=>by cases hb⟩
theorem Inv.anch{g:Gh}{w:World}{pre:List Ob}(h:Inv g w pre): Inv g w (anch g.blk 0 pre pre):=by
 refine⟨by rw[zGN];exact h.n,h.lt,h.dead,h.inj,fun id o ho=>?_,h.st,h.gl⟩
 rw[zI0]at ho
 cases hp:pre[id]? with
 |none=>simp[hp]at ho
 |some p =>
  rw[hp,qBG,if_pos (qAA.1 hp).1,qAS]at ho
  injection ho with ho;subst ho
  exact(h.ob id p hp).anch1
theorem Inv.unanch{g:Gh}{w:World}{f:Nat->Option Nat}{pre post:List Ob}(hn:post.all zPW=true)(h:Inv g w (Sx.anch f 0 pre post)): Inv g w post/\∀j o,j<pre.length->post[j]?=some o->zH4 o=true->∃b,g.blk j=some b/\∀c,f j=some c->c=b:=by
 have key:∀j o,post[j]?=some o->ObOk g w j o/\(j<pre.length->zH4 o=true->∃b,g.blk j=some b/\∀c,f j=some c->c=b):=by
  intro j o hj
  have hno:=qAI.1 hn o (qAC hj)
  by_cases hl:j<pre.length
  ·have:=h.ob j (anch1 (f j) o) (by rw[zI0,hj,qBG,if_pos hl,qAS])
   exact⟨(this.unanch1 hno).1,fun _=>(this.unanch1 hno).2⟩
  ·exact⟨h.ob j o (by rw[zI0,hj,qBG,if_neg hl]),fun hl'=>absurd hl' hl⟩
 exact⟨⟨by have:=h.n;rwa [zGN]at this,h.lt,h.dead,h.inj,fun id o ho=>(key id o ho).1,h.st,h.gl⟩,fun j o hl hj hb=>(key j o hj).2 hl hb⟩
def zN2: List SV->Nat->Sl
 |[],_=>[]
 |s::r,k=>(k,s)::zN2 r (k+1)
theorem RepSs.len{g:Gh}{w:World}: ∀{vs:List Value} {ss:List SV},RepSs g w vs ss->vs.length=ss.length
 |[],[],_=>rfl
 |_::_,_::_,h=>by simp[RepSs.len h.2]
 |[],_::_,h=>h.elim
 |_::_,[],h=>h.elim
theorem zHJ{g:Gh}{w:World}: ∀(vs:List Value) (ss:List SV) (k:Nat) (f:Nat->Value),RepSs g w vs ss->(∀j v,vs[j]?=some v->f (k+j)=v)->∀t,RepS g w (f t) (get (zN2 ss k) t)
 |[],[],_,_,_,_,_=>trivial
 |v::vs,s::ss,k,f,h,hf,t=>by
  unfold zN2
  rw[zBl]
  split
  ·rename_i e;subst e
   have:=hf 0 v rfl
   rw[qBI]at this
   rw[this];exact h.1
  ·exact zHJ vs ss (k+1) f h.2 (fun j v' hj=>by rw[<-hf (j+1) v' hj];congr 1;omega) t
 |[],_::_,_,_,h,_,_=>h.elim
 |_::_,[],_,_,h,_,_=>h.elim
def MRes(rs:Array ResultVar)(res:SV)(post:List Ob)(σ:Sl)(η:List Ob): Prop :=
 match rs.toList with
 |[.tmp r]=>Fits [(r,res)] post σ η
 |[.tmp r,.tmp s]=>match res with
  | .pair a b=>Fits [(r,a),(s,b)] post σ η/\Nat.beq r s=false
  |_=>res=.top/\Fits [] post σ η
 |[]=>res=.top/\Fits [] post σ η
 |_=>False
def zBu(rs:Array ResultVar)(res:SV)(post:List Ob): Exit->Sl->List Ob->Prop
 | .ret,σ,η=>MRes rs res post σ η
 | .normal,σ,η=>MRes rs res post σ η
 |_,_,_=>False
theorem zB8{rs:Array ResultVar}{res:SV}{post:List Ob}{σ:Sl}{η:List Ob}(h:MRes rs res post σ η): zBu rs res post .ret σ η:=h
theorem MRes.abs{rs:Array ResultVar}{res:SV}{post:List Ob}{σ:Sl}{η:List Ob}{P:Program}{fn:Func}{w:World}{a:Act}{C:Ctx}(hrs:fn.results=rs)(h:MRes rs res post σ η)(ha:Abs C σ η a w):
  ∃v g σ',(results fn a.tmps).run P w=.ok v w/\AbsG C g σ' post a w/\RepS g w v res:=by
 obtain⟨rl⟩:=rs
 unfold MRes at h
 split at h
 ·rename_i r hr
  simp at hr;subst hr
  obtain⟨g,hg⟩:=h.abs ha
  refine⟨_,g,_,results_tmp hrs _ _ _,hg,?_⟩
  have:=hg.rep r
  rw[zBl,if_pos rfl]at this
  exact this
 ·rename_i r s hr
  simp at hr;subst hr
  split at h
  ·rename_i sa sb
   obtain⟨h,hne⟩:=h
   obtain⟨g,hg⟩:=h.abs ha
   have hne:r≠s:=fun e=>by subst e;simp at hne
   have h1:=hg.rep r
   have h2:=hg.rep s
   rw[zBl,if_pos rfl]at h1
   rw[zBl,if_neg hne,zBl,if_pos rfl]at h2
   exact⟨_,g,_,results_tmp2 hrs _ _ _,hg,_,_,rfl,h1,h2⟩
  ·obtain⟨rfl,h⟩:=h
   obtain⟨g,hg⟩:=h.abs ha
   exact⟨_,g,_,results_tmp2 hrs _ _ _,hg,trivial⟩
 ·rename_i hr
  simp at hr;subst hr
  obtain⟨rfl,h⟩:=h
  obtain⟨g,hg⟩:=h.abs ha
  exact⟨_,g,_,results_none hrs _ _ _,hg,trivial⟩
 ·exact h.elim
def zEr(l:List Ob): Bool:=l.all zPW
def zDE: List Ob->List Ob->Bool
 |[],_=>true
 |o::r,p::s=>Nat.beq (zDx o) (zDx p)&&zDE r s
 |_::_,[]=>false
theorem zGv: ∀{l m:List Ob},zDE l m=true->l.length<=m.length
 |[],_,_=>qAO _
 |o::r,p::s,h=>by simp only[zDE,qAR]at h;have:=zGv h.2;simpa using this
 |_::_,[],h=>by cases h
theorem zFZ: ∀{l m:List Ob},zDE l m=true->∀(j:Nat) (o p:Ob),l[j]?=some o->m[j]?=some p->zDx o=zDx p
 |o::r,p::s,h,0,o',p',ho,hp=>by
  simp only[zDE,qAR]at h
  simp at ho hp;subst ho;subst hp;exact qAX h.1
 |o::r,p::s,h,j+1,o',p',ho,hp=>by
  simp only[zDE,qAR]at h
  exact zFZ h.2 j o' p' (by simpa using ho) (by simpa using hp)
 |[],_,_,j,_,_,ho,_=>by simp at ho
 |_::_,[],h,_,_,_,_,_=>by cases h
theorem zFj{o:Ob}: zH4 o=true↔zDx o≠0:=by cases o <;> simp[zH4,zDx]
theorem zOR{g:Gh}{w:World}{id:Nat}{o:Ob}(h:ObOk g w id o)(hb:zH4 o=true): ∃b,g.blk id=some b:=by
 cases o with
 |bx k et cs=>obtain⟨b,e,us,h1,_⟩:=h;exact⟨b,h1⟩
 |mapq q k l=>obtain⟨b,es,ck,h1,_⟩:=h;exact⟨b,h1⟩
 |_=>cases hb
theorem zCl{P:Program}{f:FuncId}{fn:Func}{c:Code}{as:List SV}{pre post:List Ob}{res:SV}{N:Nat}{rs:Array ResultVar}(hf:P.funcs[f]?=some fn)(hb:fn.body=some c)(hN:fn.ntmps=N)(hrs:fn.results=rs)(hl:Nat.ble as.length N=true)
  (hk:zDE pre post=true) (hu:zEr post=true)
  (h:∀(w0:World) (St0:Stab) (X:Nat->Prop) (fx:Nat->Option Nat),awp ⟨P,N,w0,St0,X,0⟩ c (zBu rs res (anch fx 0 pre post)) (zN2 as 0) (anch fx 0 pre pre)):zBR P f as pre res post:=by
 intro g w vs hi hrep
 subst hN
 have hl:=qAM hl
 have hlen:=hrep.len
 refine calls_of_wp hf hb (h w g.St (fun b=>∃j,g.blk j=some b) g.blk _ ?_ _ _ ?_)
 ·intro e σ' η' a' w' hq ha
  have fin:MRes rs res (anch g.blk 0 pre post) σ' η'->a'.defers=[]/\∃v,(results fn a'.tmps).run P w' = .ok v w'/\∃v_1 g',Ending.returned v=.returned v_1/\Inv g' w' post/\RepS g' w' v_1 res/\Frame g w pre g' w':=by
   intro hq
   obtain⟨v,g',σ2,hr,hA,hrep'⟩:=hq.abs (P:=P) hrs ha
   obtain⟨hI,hbx⟩:=hA.inv.unanch hu
   refine⟨hA.defers,v,hr,v,g',rfl,hI,hrep',⟨hA.os,hA.tape,hA.output,hA.wsize,fun k hk hno=>hA.heap k hk (fun ⟨j,hj⟩=>hno j hj),hA.keep,fun b o hbo=>?_,fun j b hj=>hA.own j b hj (qAO _),fun j o hj hob=>?_⟩⟩
   ·exact hA.new b o hbo
   ·have hjp:j<pre.length:=(qAA.1 hj).1
    have hjl:j<post.length:=qAc hjp (zGv hk)
    have hp:post[j]?=some post[j]:=qAB hjl
    have hs:=zFZ hk j _ _ hj hp
    obtain⟨b',hb',hc'⟩:=hbx j _ hjp hp (zFj.2 (by rw[<-hs];exact zFj.1 hob))
    obtain⟨b,o1⟩:=zOR (hi.ob j _ hj) hob
    rw[hb',o1,hc' b o1]
  cases e <;> first|exact fin hq|exact hq.elim
 ·refine⟨g,rfl,?_,hi.anch,rfl,rfl,rfl,qAN _,fun _ _ _=>rfl,Keep.refl g.St w,fun _ _ h=>.inl h,fun i b hb _=>.inr ⟨i,hb⟩,?_⟩
  ·simp[hlen];omega
  ·refine zHJ vs as 0 _ hrep fun j v hj=>?_
   have hjl:j<vs.length:=(qAA.1 hj).1
   simp only[qAS,qAQ]
   rw[qAl (by simpa using hjl)]
   simp[hj]
