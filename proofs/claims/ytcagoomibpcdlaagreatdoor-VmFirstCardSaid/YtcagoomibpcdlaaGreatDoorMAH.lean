/- Parts of the proof. -/
import Derived.Test.YtcagoomibpcdlaaGreatDoorMAB
import Derived.Test.YtcagoomibpcdlaaGreatDoorMAF
import Derived.Test.YtcagoomibpcdlaaGreatDoorMAG
set_option maxHeartbeats 16000000
namespace Go.Proofs.YtcagoomibpcdlaaGreatDoor
open _root_.Go.Proofs.Tryz
open Go.Sx
attribute [local irreducible] zAN Program.underlying Ylds zA9 alex zB3 zBf awp zAi zCC zCB zAU zAz zBj zBB zBr zB2 zB8 zBi
def zN2(p:UInt8->Bool)(s:List UInt8): Bool:=allF zH8 s&&p (s.getD 0 0) && !zT0 s
def zQc(t:Tk): Bool :=
 if t.pos<0 then false
 else if t.kind=1 then decide (t.num=0)&&zN2 zHI t.text
 else if t.kind=2 then decide (t.num=0)&&zN2 zHJ t.text
 else if t.kind=3 then decide (t.text=[])&&decide (W t.num=t.num)
 else if t.kind=4 then decide (t.num=0)&&decide (t.text.length<=200)
 else if t.kind=5 then decide (t.num=0)&&allF zHn t.text && !zT0 t.text
 else if t.kind=6 then decide (t.num=0)&&zT0 t.text
 else false
theorem zRK(c:UInt8)(h:c.toNat>126): zH8 c=false:=by
 simp only[zH8,zHI,zHJ,zJN,zX2,<-Bool.decide_or,show ((95:UInt8).toNat:Int)=95 from rfl,show ((39:UInt8).toNat:Int)=39 from rfl]
 rw[decide_eq_false_iff_not];omega
theorem zTB(c:UInt8)(h:c.toNat>126): zHn c=false:=by
 refine zQO fun j hj e=>?_
 subst e
 have:∀k,k<16->(signL.getD k 0).toNat<=126:=by decide
 have:=this j hj
 omega
theorem zUb{p:UInt8->Bool}{s:List UInt8}(h:allF p s=true): 0<s.length:=by
 cases s with
 |nil=>simp[allF]at h
 |cons=>simp
abbrev Tk.cells(t:Tk): List SV:=[.d (i64 t.kind),.d (str t.text),.d (i64 t.num),.d (i64 t.pos)]
theorem zMX(t:Tk)(f:FuncId)(p:UInt8->Bool)(hb:zAN prog f=true)(hp:∀c,zAi prog f [u8 c] (bl (p c))):
  zAz prog 177 [.clo f [],.ptr 0 0] [.box t.cells] (bl (zN2 p t.text)):=by
 have hbf:=hb;clear hb
 refine zCX func177 rfl ntmps177 results177 rfl ?_
 intro wb St0
 repeat' first|apply en_n|apply zAH|apply zAA|apply zAD|apply w0|(apply k1u (hd:=rfl);exact rfl;exact rfl)|exact zAf rfl|(apply zSA (hb:=hbf) (hc:=hp (t.text.getD 0 0));exact rfl)|(refine zAW [] [] rfl rfl zVA (zVJ _ zH8 zUB zT5 zRK t.text) rfl (SArgs_all rfl) rfl (by decide) rfl rfl rfl rfl)|(apply zAb (hb:=zVB) (hc:=zVY t.text))|apply ay (hd:=rfl)|exact zAF rfl|exact zAB rfl|exact zBX rfl|exact zAa rfl rfl|exact zAX rfl rfl|exact zAC rfl fo_1|exact zAE rfl zQF rfl rfl|refine w1 rfl rfl ?_|(apply g1;exact rfl;exact rfl;all_goals intro hb)|apply zAQ|apply zAR|refine res1 rfl ?_|exact zAM|refine zAY rfl ?_
 ·have:=zUb hb
  exact zSF (i:=0) rfl rfl (by with_reducible exact ustr) ⟨by omega,by omega⟩
 all_goals exact zDi (by simp only[zN2, *];first|rfl|simp)
theorem zUp(t:Tk): zAi prog 163 [t.av] (bl (zQc t)):=by
 refine zAs func163 rfl ntmps163 results163 rfl ?_
 intro wb St0
 repeat' first|apply en_n|apply zAH|apply zAA|apply zAD|apply w0|(apply kU (hd:=rfl);exact rfl;exact rfl)|(apply k1u (hd:=rfl);exact rfl;exact rfl)|(apply k0u (hd:=rfl);exact rfl;exact rfl)|(apply zEh;exact rfl;with_reducible exact ustr)|exact zSB rfl rfl|(refine zAW [0] [0] rfl rfl zL5 (zMX t _ zHI zOB zNf) rfl (SArgs_all rfl) rfl (by decide) rfl rfl rfl rfl)|(refine zAW [0] [0] rfl rfl zL5 (zMX t _ zHJ zOC zOD) rfl (SArgs_all rfl) rfl (by decide) rfl rfl rfl rfl)|(refine zAW [] [] rfl rfl zVA (zVJ _ zHn zW7 zWF zTB t.text) rfl (SArgs_all rfl) rfl (by decide) rfl rfl rfl rfl)|(apply zAb (hb:=zVB) (hc:=zVY t.text))|(refine zAb zEr (zEm t.num) (zAY rfl zAM))|(apply aBox (hd:=rfl) (hro:=rfl);exact rfl;exact rfl)|apply ay (hd:=rfl)|exact zAF rfl|exact zAB rfl|exact zEw rfl rfl|exact zIY rfl rfl|exact zFN rfl rfl|exact zIG rfl rfl|exact zBX rfl|exact zAa rfl rfl|exact zAX rfl rfl|exact zAf rfl|exact zIQ rfl|(apply zAC;exact rfl;(with_reducible first|exact fo_0|exact fo_1|exact fo_2|exact fo_3))|(apply zAE;exact rfl;(with_reducible first|exact zQF|exact zYC|exact zVv|exact zUx);exact rfl;exact rfl)|exact zJ3 rfl|refine w1 rfl rfl ?_|(apply gD;exact rfl;exact rfl;all_goals intro hb)|(apply g1;exact rfl;exact rfl;all_goals intro hb)|(apply zBT;exact rfl;all_goals intro hb)|refine zAI rfl ?_|refine zAJ rfl ?_|apply zAL|apply zAS|apply zAQ|refine zAj (by kernel_rfl) (by kernel_rfl) ?_|apply en_r|apply eb_n|apply eb_r|apply zAR|refine res1 rfl ?_|exact zAM|refine zAY rfl ?_
 all_goals exact zDi (by simp_all [zQc] <;> (rw[show decide (t.pos<0)=false from decide_eq_false (by omega),Bool.not_false,Bool.true_and,decide_eq_decide];omega))
end Go.Proofs.YtcagoomibpcdlaaGreatDoor
namespace Go.Proofs.YtcagoomibpcdlaaGreatDoor
open _root_.Go.Proofs.Tryz
open Go.Sx Go.RowKit
theorem zWb: zC0 prog 221=some [(0,1),(1,1),(2,1),(3,1)]:=by kernel_rfl
theorem zW8: zAN prog 152=true:=by kernel_rfl
def conF(s:List UInt8): Bool:=zQc ⟨2,s,0,0⟩
end Go.Proofs.YtcagoomibpcdlaaGreatDoor
namespace Go.Vm
inductive Rf where
 |n (v:Int)
 |b (i:Nat)
 deriving DecidableEq,Inhabited
structure Thing where
 kind:Int
 tag:Int
 text:List UInt8
 parts:List Rf
 deriving Inhabited
structure Cn where
 isText:Bool
 num:Int
 text:List UInt8
 deriving DecidableEq,Inhabited
structure Ins where
 op:Int
 a:Int
 b:Int
 deriving DecidableEq,Inhabited
structure Img where
 pool:List Cn
 code:List Ins
structure Cl where
 at_:Int
 base:Int
 fun_:Rf
 deriving Inhabited
structure Ty where
 c:Cl
 height:Int
 calls:Int
 deriving Inhabited
structure St where
 words:Int
 used:Int
 all:List Thing
 ly:List Nat
 stack:List Rf
 c:Cl
 calls:List Cl
 tries:List Ty
 fin:Int
 num:Int
 out:List (List UInt8)
 steps:Int
def Wn(n:Int): Int:=(n+4611686018427387904)%9223372036854775808-4611686018427387904
def numR(n:Int): Rf:=.n (Wn n)
def Thing.need(o:Thing): Nat:=if o.kind=4 then 1+(o.text.length+7) / 8 else 1+o.parts.length
def zBy(t:List UInt8): Thing:=⟨4,t.length,t,[]⟩
def addN: List Nat->List Rf->List Nat
 |out,[]=>out
 |out,.n _::r=>addN out r
 |out,.b i::r=>if i∈out then addN out r else addN (out++[i]) r
def zH4(all:List Thing): Nat->List Nat->Nat->List Nat
 |0,out,_=>out
 |f+1,out,k=>match out[k]? with
  |none=>out
  |some i=>zH4 all f (addN out (all.getD i default).parts) (k+1)
def zDn(all:List Thing)(roots:List Rf): List Nat:=zH4 all (all.length+1) (addN [] roots) 0
def sumN(all:List Thing)(l:List Nat): Nat:=(l.map fun i=>(all.getD i default).need).sum
def live(all:List Thing)(roots:List Rf): Nat:=sumN all (zDn all roots)
def St.stop(s:St)(e:Int): St:={ s with fin:=e }
def St.top(s:St)(k:Nat): Rf:=s.stack.getD (s.stack.length-1-k) (.n 0)
def St.instead(s:St)(n:Nat)(r:Rf): St:={ s with stack:=s.stack.take (s.stack.length-n)++[r] }
def St.numI(s:St)(n:Nat)(x:Int): St:=s.instead n (numR x)
def St.high(s:St)(more:Int): Bool:=decide ((s.stack.length:Int)+more>4000)
def St.roots(s:St): List Rf:=s.stack++s.c.fun_::(s.calls.map (·.fun_)++s.tries.map (·.c.fun_))
def St.gc(s:St)(n:Nat): St:=if s.words-s.used<(n:Int)then { s with used:=(live s.all s.roots:Int),ly:=zDn s.all s.roots }else s
def St.new(s:St)(o:Thing)(n:Nat): St:=({ s with used:=s.used+(o.need:Int),all:=s.all++[o],ly:=s.ly++[s.all.length] }:St).instead n (.b s.all.length)
def St.alloc(s:St)(o:Thing)(n:Nat): St:=if s.words-s.used<(o.need:Int)then s.stop 5 else s.new o n
def St.block(s:St)(o:Thing)(n:Nat): St:=if s.high (1-n)then s.stop 6 else(s.gc o.need).alloc o n
def St.partsT(s:St)(n:Nat): List Rf:=s.stack.drop (s.stack.length-n)
def St.obj(s:St): Rf->Thing
 | .n _=>default
 | .b i=>s.all.getD i default
def St.of(s:St)(r:Rf)(k:Int): Bool:=match r with
 | .n _=>false
 | .b i=>decide ((s.all.getD i default).kind=k)
def St.raise(s:St)(n:Int): St:=match s.tries.getLast? with
 |none=>{ s with num:=n,fin:=2 }
 |some t=>{ s with tries:=s.tries.dropLast,calls:=s.calls.take t.calls.toNat,c:=t.c,stack:=s.stack.take t.height.toNat++[numR n] }
def St.app(s:St)(tail:Bool): St :=
 let f:=s.top 1
 let a:=s.top 0
 if !s.of f 2 then s.stop 4
 else if tail then { s with stack:=s.stack.take s.c.base.toNat++[a],c:=⟨(s.obj f).tag,s.c.base,f⟩ }
 else if s.calls.length>=1000 then s.stop 6
 else { s with calls:=s.calls++[s.c],stack:=s.stack.take (s.stack.length-2)++[a],c:=⟨(s.obj f).tag,(s.stack.length:Int)-2,f⟩ }
def St.ints(s:St)(p:Int)(a b:Int): St :=
 if p=0 then s.numI 2 (a+b)else if p=1 then s.numI 2 (a-b)else if p=2 then s.numI 2 (a*b)
 else if p=3 then(if b=0 then s.raise (-2)else s.numI 2 (a.tdiv b))
 else if p=4 then(if b=0 then s.raise (-2)else s.numI 2 (a.tmod b))
 else if p=5 then s.numI 2 (if a=b then 1 else 0)
 else s.numI 2 (if a<b then 1 else 0)
def St.put(s:St)(t:List UInt8): St:={ s with out:=s.out++[t] }
def takes(p:Int): Int:=if p<0\/p>13 then 0 else if p<8\/p=11 then 2 else 1
def St.prim(shw:Int->List UInt8)(s:St)(p:Int): St :=
 let a:=s.top ((takes p).toNat-1)
 let b:=s.top 0
 if p<7 then match a,b with
  | .n x,.n y=>s.ints p x y
  |_,_=>s.stop 4
 else if p=7 then
  if !s.of a 4 || !s.of b 4 then s.stop 4
  else let t:=(s.obj a).text++(s.obj b).text
   if t.length>200 then s.raise (-3)else s.block (zBy t) 2
 else if p=8 then(if !s.of a 4 then s.stop 4 else s.numI 1 (s.obj a).text.length)
 else if p=13 then(if !s.of a 4 then s.stop 4 else(s.put (s.obj a).text).numI 1 0)
 else if p=9 then s.block ⟨3,0,[],s.partsT 1⟩ 1
 else if p=10 then(if !s.of a 3 then s.stop 4 else s.instead 1 ((s.obj a).parts.getD 0 default))
 else if p=11 then
  match a with
  | .n _=>s.stop 4
  | .b i=>if(s.all.getD i default).kind≠3 then s.stop 4
   else({ s with all:=s.all.set i { s.all.getD i default with parts:=(s.all.getD i default).parts.set 0 b } }:St).numI 2 0
 else match a with
  | .n x=>s.put (shw x)
  | .b _=>s.stop 4
def St.push(s:St)(r:Rf): St:=if s.high 1 then s.stop 6 else s.instead 0 r
def St.goto(s:St)(a:Int): St:={ s with c:={ s.c with at_:=a } }
def step(shw:Int->List UInt8)(m:Img)(s0:St): St :=
 let i:=m.code.getD s0.c.at_.toNat default
 let s:=s0.goto (s0.c.at_+1)
 if i.op=0 then s.stop 1
 else if i.op=1 then
  let k:=m.pool.getD i.a.toNat default
  if k.isText then s.block (zBy k.text) 0 else s.push (numR k.num)
 else if i.op=2 then s.push (s.top i.a.toNat)
 else if i.op=3 then s.push ((s.obj s.c.fun_).parts.getD i.a.toNat default)
 else if i.op=4 then s.push s.c.fun_
 else if i.op=5 then { s with stack:=s.stack.take (s.stack.length-i.a.toNat) }
 else if i.op=6 then s.instead (i.a.toNat+1) (s.top 0)
 else if i.op=7 then s.app false
 else if i.op=8 then s.app true
 else if i.op=9 then { s with stack:=s.stack.take s.c.base.toNat++[s.top 0],c:=(s.calls.getLast?).getD default,calls:=s.calls.dropLast }
 else if i.op=10 then s.block ⟨1,i.a,[],s.partsT i.b.toNat⟩ i.b.toNat
 else if i.op=18 then s.block ⟨2,i.a,[],s.partsT i.b.toNat⟩ i.b.toNat
 else if i.op=12 then s.prim shw i.a
 else if i.op=17 then { s with tries:=s.tries++[⟨{ s.c with at_:=i.a },s.stack.length,s.calls.length⟩] }
 else if i.op=14 then { s with tries:=s.tries.dropLast }
 else if i.op=15 then s.goto i.a
 else
  let r:=s.top 0
  if i.op=11 then
   (if !s.of r 1||decide (i.a>=((s.obj r).parts.length:Int))then s.stop 4 else s.instead 1 ((s.obj r).parts.getD i.a.toNat default))
  else if i.op=19 then
   (if !s.of r 1 then s.stop 4 else if(s.obj r).tag≠i.b then s.goto i.a else s)
  else match r with
   | .b _=>s.stop 4
   | .n x =>
    if i.op=13 then s.raise x
    else if i.op=16 then
     let s:={ s with stack:=s.stack.take (s.stack.length-1) }
     if x=0 then s.goto i.a else s
    else if x≠(m.pool.getD i.b.toNat default).num then s.goto i.a else s
def runS(shw:Int->List UInt8)(m:Img): Nat->St->St
 |0,s=>if s.fin=0 then s.stop 3 else s
 |f+1,s=>if s.fin=0 then runS shw m f (step shw m { s with steps:=s.steps+1 })else s
def start(words:Int): St:=⟨words,0,[],[],[],⟨0,0,.n 0⟩,[],[],0,0,[],0⟩
structure Fol(s t:St): Prop where
 out:s.out <+: t.out
 steps:t.steps=s.steps
 words:t.words=s.words
 fin:(t.fin=s.fin/\t.num=s.num)\/((t.fin=1\/t.fin=4\/t.fin=5\/t.fin=6)/\t.num=s.num)\/t.fin=2
theorem Fol.mk'{s t:St}(h1:t.out=s.out)(h2:t.steps=s.steps)(h3:t.words=s.words)(h4:t.fin=s.fin)(h5:t.num=s.num): Fol s t:=⟨h1▸List.prefix_rfl,h2,h3,.inl ⟨h4,h5⟩⟩
theorem Fol.of{s s' t:St}(h1:s'.out=s.out)(h2:s'.steps=s.steps)(h3:s'.words=s.words)(h4:s'.fin=s.fin)(h5:s'.num=s.num)(h:Fol s' t): Fol s t :=
 ⟨h1▸h.out,h.steps.trans h2,h.words.trans h3,by have:=h.fin;rw[h4,h5]at this;exact this⟩
theorem zGo(s:St)(e:Int)(h:e=1\/e=4\/e=5\/e=6): Fol s (s.stop e):=⟨List.prefix_rfl,rfl,rfl,.inr (.inl ⟨h,rfl⟩)⟩
theorem zF5(s:St)(n:Nat)(r:Rf): Fol s (s.instead n r):=.mk' rfl rfl rfl rfl rfl
theorem zML(s:St)(o:Thing)(n:Nat): Fol s (s.block o n):=by
 unfold St.block
 split
 ·exact zGo s 6 (by simp)
 ·have h:(s.gc o.need).out=s.out/\(s.gc o.need).steps=s.steps/\(s.gc o.need).words=s.words/\(s.gc o.need).fin=s.fin/\(s.gc o.need).num=s.num:=by unfold St.gc;split <;> simp
  refine .of h.1 h.2.1 h.2.2.1 h.2.2.2.1 h.2.2.2.2 ?_
  unfold St.alloc;split
  ·exact zGo _ 5 (by simp)
  ·exact .mk' rfl rfl rfl rfl rfl
theorem zJD(s:St)(n:Int): Fol s (s.raise n):=by
 unfold St.raise;split
 ·exact⟨List.prefix_rfl,rfl,rfl,.inr (.inr rfl)⟩
 ·exact .mk' rfl rfl rfl rfl rfl
theorem zXT(s:St)(b:Bool): Fol s (s.app b):=by
 unfold St.app;dsimp only
 repeat' split
 all_goals first|exact zGo s _ (by simp)|exact .mk' rfl rfl rfl rfl rfl
theorem zT4(s:St)(p a b:Int): Fol s (s.ints p a b):=by
 unfold St.ints
 repeat' split
 all_goals first|exact zJD s _|exact zF5 s _ _
theorem zWS(s:St)(t:List UInt8): Fol s (s.put t):=⟨List.prefix_append _ _,rfl,rfl,.inl ⟨rfl,rfl⟩⟩
theorem zTZ(s:St)(r:Rf): Fol s (s.push r):=by
 unfold St.push;split
 ·exact zGo s _ (by simp)
 ·exact zF5 s _ _
theorem zTc(shw:Int->List UInt8)(s:St)(p:Int): Fol s (s.prim shw p):=by
 unfold St.prim;dsimp only
 repeat' split
 all_goals first
  |exact zT4 s _ _ _
  |exact zGo s _ (by simp)
  |exact zJD s _
  |exact zML s _ _
  |exact zF5 s _ _
  |exact zWS s _
  |exact⟨List.prefix_append _ _,rfl,rfl,.inl ⟨rfl,rfl⟩⟩
  |exact .mk' rfl rfl rfl rfl rfl
theorem zRI{u a b:St}{c:Prop}[Decidable c](ha:Fol u a)(hb:Fol u b): Fol u (if c then a else b):=by split <;> assumption
theorem zIf(shw:Int->List UInt8)(m:Img)(s:St): Fol s (step shw m s):=by
 unfold step;dsimp only
 have g:∀{t},Fol (s.goto (s.c.at_+1)) t->Fol s t:=fun h=>.of (s':=s.goto (s.c.at_+1)) rfl rfl rfl rfl rfl h
 refine g ?_
 clear g
 generalize s.goto (s.c.at_+1)=u
 generalize m.code.getD s.c.at_.toNat default=i
 generalize m.pool.getD i.a.toNat default=p1
 generalize m.pool.getD i.b.toNat default=p2
 generalize u.top 0=r
 repeat' (with_reducible refine zRI ?_ ?_)
 all_goals try (cases r <;> dsimp only)
 all_goals repeat' (with_reducible refine zRI ?_ ?_)
 all_goals first
  |exact zGo _ _ (by simp)
  |exact zML _ _ _
  |exact zTZ _ _
  |exact zF5 _ _ _
  |exact zXT _ _
  |exact zTc _ _ _
  |exact zJD _ _
  |exact .mk' rfl rfl rfl rfl rfl
theorem zGq(shw:Int->List UInt8)(m:Img): ∀(f:Nat) (s:St),s.fin≠0->runS shw m f s=s
 |0,s,h=>by rw[runS,if_neg h]
 |f+1,s,h=>by rw[runS,if_neg h]
theorem zIi(shw:Int->List UInt8)(m:Img)(f:Nat)(s:St)(h:s.fin=0): runS shw m (f+1) s=runS shw m f (step shw m { s with steps:=s.steps+1 }):=by rw[runS,if_pos h]
theorem zEv(x:Nat): ∀(l:List Rf) (out:List Nat),x∈addN out l↔x∈out\/Rf.b x∈l
 |[],out=>by simp[addN]
 | .n v::r,out=>by rw[addN,zEv x r out];simp
 | .b i::r,out=>by
  rw[addN]
  by_cases h:i∈out
  ·rw[if_pos h,zEv x r out]
   constructor
   ·rintro(h1|h1)
    ·exact .inl h1
    ·exact .inr (qAm _ h1)
   ·rintro(h1|h1)
    ·exact .inl h1
    ·rcases qBG.1 h1 with h2|h2
     ·injection h2 with h2;subst h2;exact .inl h
     ·exact .inr h2
  ·rw[if_neg h,zEv x r (out++[i])]
   simp only[qAd,qAO,qBG (b:=Rf.b i),Rf.b.injEq]
   constructor
   ·rintro((h1|h1)|h1)
    ·exact .inl h1
    ·exact .inr (.inl h1)
    ·exact .inr (.inr h1)
   ·rintro(h1|h1|h1)
    ·exact .inl (.inl h1)
    ·exact .inl (.inr h1)
    ·exact .inr h1
theorem zDj: ∀(l:List Rf) (out:List Nat),out.Nodup->(addN out l).Nodup
 |[],_,h=>h
 | .n _::r,out,h=>by rw[addN];exact zDj r out h
 | .b i::r,out,h=>by
  rw[addN]
  by_cases hi:i∈out
  ·rw[if_pos hi];exact zDj r out h
  ·rw[if_neg hi]
   refine zDj r _ (List.nodup_append.2 ⟨h,by simp,?_⟩)
   intro a ha b hb e
   rw[qAO]at hb
   subst hb;subst e;exact hi ha
theorem zEu: ∀(l:List Rf) (out:List Nat),out <+: addN out l
 |[],_=>List.prefix_rfl
 | .n _::r,out=>by rw[addN];exact zEu r out
 | .b i::r,out=>by
  rw[addN]
  by_cases hi:i∈out
  ·rw[if_pos hi];exact zEu r out
  ·rw[if_neg hi];exact(List.prefix_append _ _).trans (zEu r _)
theorem zIw: ∀(l m:List Rf) (out:List Nat),addN out (l++m)=addN (addN out l) m
 |[],m,out=>rfl
 | .n _::r,m,out=>by rw[qBk,addN,addN,zIw r m]
 | .b i::r,m,out=>by
  rw[qBk,addN,addN]
  split
  ·exact zIw r m out
  ·exact zIw r m _
def Closed(all:List Thing)(l:List Nat): Prop:=∀i∈l,∀j,Rf.b j∈(all.getD i default).parts->j∈l
theorem zMp(f:Nat->Nat): ∀(l m:List Nat),l.Nodup->(∀i∈l,i∈m)->(l.map f).sum<=(m.map f).sum
 |[],_,_,_=>by simp
 |a::r,m,hn,h=>by
  have ha:=h a (by simp)
  rw[List.nodup_cons]at hn
  have h1:=zMp f r (m.erase a) hn.2 fun i hi=>(List.mem_erase_of_ne (fun (e:i=a)=>hn.1 (by rw[<-e];exact hi))).2 (h i (qAm _ hi))
  have h2:=((List.perm_cons_erase ha).map f).sum_nat
  rw[qAr,List.sum_cons]at h2
  rw[qAr,List.sum_cons];omega
theorem zHj{l:List Nat}{n:Nat}(h:l.Nodup)(hl:∀i∈l,i<n): l.length<=n:=by
 have:=zMp (fun _=>1) l (List.range n) h (fun i hi=>qBL.2 (hl i hi))
 have e:∀l:List Nat,(l.map fun _=>1).sum=l.length:=fun l=>by induction l <;> simp_all [Nat.add_comm]
 rw[e,e,List.length_range]at this;exact this
theorem zNo{all:List Thing}{S:List Nat}(hS:Closed all S)(hlt:∀i∈S,i<all.length): ∀(f:Nat) (out:List Nat) (k:Nat),out.Nodup->(∀i∈out,i∈S)->k<=out.length->all.length+1<=f+k->
  (∀j i,j<k->out[j]?=some i->∀x,Rf.b x∈(all.getD i default).parts->x∈out)->
  (zH4 all f out k).Nodup/\(∀i∈zH4 all f out k,i∈S)/\out <+: zH4 all f out k/\Closed all (zH4 all f out k)
 |0,out,k,hn,hs,hk,hf,hc=>by
  have:=zHj hn (fun i hi=>hlt i (hs i hi))
  omega
 |f+1,out,k,hn,hs,hk,hf,hc=>by
  rw[zH4]
  cases ho:out[k]? with
  |none =>
   rw[qBa]at ho
   dsimp only
   refine⟨hn,hs,List.prefix_rfl,fun i hi x hx=>?_⟩
   obtain⟨j,hj⟩:=qAu.1 hi
   exact hc j i (by have:=(qAA.1 hj).1;omega) hj x hx
  |some i =>
   dsimp only
   have hi:i∈out:=qAK ho
   have hpre:=zEu (all.getD i default).parts out
   have hkl:=(qAA.1 ho).1
   obtain⟨h1,h2,h3,h4⟩:=zNo hS hlt f (addN out (all.getD i default).parts) (k+1) (zDj _ _ hn) (fun x hx=>by
     rcases(zEv x _ _).1 hx with h|h
     ·exact hs x h
     ·exact hS i (hs i hi) x h) (by have:=hpre.length_le;omega) (by omega) (fun j y hj hy x hx=>by
     rw[zEv]
     have hy':out[j]?=some y:=by
      obtain⟨w,e⟩:=hpre
      rw[<-e,qAF (by omega)]at hy;exact hy
     rcases qAR j k with hjk|hjk
     ·exact .inl (hc j y hjk hy' x hx)
     ·have:j=k:=by omega
      subst this
      rw[ho]at hy';injection hy' with hy';subst hy'
      exact .inr hx)
   exact⟨h1,h2,hpre.trans h3,h4⟩
theorem zLn{all:List Thing}{S:List Nat}{roots:List Rf}(hS:Closed all S)(hlt:∀i∈S,i<all.length)(hr:∀i,Rf.b i∈roots->i∈S):
  (zDn all roots).Nodup/\(∀i∈zDn all roots,i∈S)/\(∀i,Rf.b i∈roots->i∈zDn all roots)/\Closed all (zDn all roots):=by
 obtain⟨h1,h2,h3,h4⟩:=zNo hS hlt (all.length+1) (addN [] roots) 0 (zDj _ _ (by simp)) (fun x hx=>by
  rcases(zEv x _ _).1 hx with h|h
  ·simp at h
  ·exact hr x h) (qAX _) (by omega) (fun j i hj=>by omega)
 exact⟨h1,h2,fun i hi=>h3.subset ((zEv i _ _).2 (.inr hi)),h4⟩
theorem zFO{all:List Thing}{l m:List Nat}(hn:l.Nodup)(h:∀i∈l,i∈m): sumN all l<=sumN all m:=zMp _ l m hn h
structure VS where
 of:Int
 has:Int
 height:Int
 tries:List Int
 deriving DecidableEq
def zIW(con:List UInt8->Bool)(m:Img)(k:Int): Bool:=match m.pool[k.toNat]? with
 |some c=>c.isText&&con c.text
 |none=>false
def zKu(m:Img)(k:Int): Bool:=match m.pool[k.toNat]? with
 |some c=>!c.isText
 |none=>false
structure Eff where
 takes:Int
 puts:Int
 holds:Bool
 behind:Bool
 there:Bool
def eff(con:List UInt8->Bool)(m:Img)(i:Ins)(s:VS): Eff :=
 let fn:=decide (s.of>=0)
 let free:=s.tries.isEmpty
 if i.op=0 then⟨1,0, !fn&&free,false,false⟩
 else if i.op=1 then⟨0,1,decide (i.a<m.pool.length),true,false⟩
 else if i.op=2 then⟨0,1,decide (i.a<s.height),true,false⟩
 else if i.op=3 then⟨0,1,fn&&decide (i.a<s.has),true,false⟩
 else if i.op=4 then⟨0,1,fn,true,false⟩
 else if i.op=5 then⟨i.a,0,true,true,false⟩
 else if i.op=6 then⟨i.a+1,1,true,true,false⟩
 else if i.op=7 then⟨2,1,true,true,false⟩
 else if i.op=8 then⟨2,0,fn&&free,false,false⟩
 else if i.op=9 then⟨1,0,fn&&free,false,false⟩
 else if i.op=10 then⟨i.b,1,zIW con m i.a&&decide (i.b<=8),true,false⟩
 else if i.op=11 then⟨1,1,decide (i.a<=7),true,false⟩
 else if i.op=12 then⟨takes i.a,1,decide (i.a<=13),true,false⟩
 else if i.op=13 then⟨1,0,true,false,false⟩
 else if i.op=14 then⟨0,0, !free,true,false⟩
 else if i.op=15 then⟨0,0,true,false,true⟩
 else if i.op=16 then⟨1,0,true,true,true⟩
 else if i.op=17 then⟨0,0,true,true,false⟩
 else if i.op=18 then⟨i.b,1,true,true,false⟩
 else if i.op=19 then⟨0,0,decide (s.height>=1)&&zIW con m i.b,true,true⟩
 else⟨0,0,decide (s.height>=1)&&zKu m i.b,true,true⟩
def zA6(s:VS): Int:=(s.tries.getLast?).getD 0
def zKw(con:List UInt8->Bool)(m:Img)(at_:Nat)(s:VS): Option (List (Int×VS)) :=
 let i:=m.code.getD at_ default
 let e:=eff con m i s
 if !e.holds||decide (s.height-e.takes<zA6 s)||(e.behind&&decide ((at_:Int)+1>=m.code.length))then none
 else
  let t:VS:={ s with height:=s.height-e.takes+e.puts,tries:=if i.op=14 then s.tries.dropLast else if i.op=17 then s.tries++[s.height]else s.tries }
  some ((if i.op=17 then[(i.a,{ s with height:=s.height+1 })]else[])++(if i.op=18 then[(i.a,⟨i.a,i.b,1,[]⟩)]else[]) ++
   (if e.behind then[((at_:Int)+1,t)]else[])++(if e.there then[(i.a,t)]else[]))
structure Good(con:List UInt8->Bool)(m:Img)(A:Nat->Option VS): Prop where
 zero:A 0=some ⟨-1,0,0,[]⟩
 some_:∀k v,A k=some v->k<m.code.length/\∃l,zKw con m k v=some l/\∀p∈l,0<=p.1/\A p.1.toNat=some p.2
def zP6(con:List UInt8->Bool)(m:Img): Prop:=∃A,Good con m A
def zAV(all:List Thing)(i:Nat): Thing:=all.getD i default
def FunOk(all:List Thing)(r:Rf)(v:VS): Prop:=∃i,r=.b i/\i<all.length/\(zAV all i).kind=2/\(zAV all i).tag=v.of/\((zAV all i).parts.length:Int)=v.has
def Seg(A:Nat->Option VS)(depth:Nat)(c:Cl)(v:VS)(ts:List Ty): Prop :=
 ts.length=v.tries.length/\∀k t h,ts[k]?=some t->v.tries[k]?=some h->
  t.height=c.base+h/\t.calls=(depth:Int)/\t.c.base=c.base/\t.c.fun_=c.fun_/\0<=t.c.at_/\A t.c.at_.toNat=some ⟨v.of,v.has,h+1,v.tries.take k⟩
structure TrOk(v:VS): Prop where
 pw:v.tries.Pairwise (·<=·)
 le:∀h∈v.tries,0<=h/\h<=v.height
 nn:0<=v.height
inductive Fs (A:Nat->Option VS) (all:List Thing):List Cl->Cl->Int->List Ty->Prop where
 |prog {c:Cl} {H:Int} {ts:List Ty} {v:VS} (hb:c.base=0) (ha:0<=c.at_) (hA:A c.at_.toNat=some v) (ho:v.of = -1) (hh:v.height=H) (ht:TrOk v) (hs:Seg A 0 c v ts):Fs A all [] c H ts
 |func {cs:List Cl} {c' c:Cl} {H:Int} {ts' ts:List Ty} {v:VS} (up:Fs A all cs c' (c.base+1) ts') (hup:∀t∈ts',t.height<=c.base) (hb:0<=c.base) (ha:0<=c.at_) (hA:A c.at_.toNat=some v) (ho:0<=v.of) (hf:FunOk all c.fun_ v) (hh:v.height=H-c.base) (ht:TrOk v) (hs:Seg A (cs.length+1) c v ts):Fs A all (cs++[c']) c H (ts'++ts)
structure Here(A:Nat->Option VS)(all:List Thing)(calls:List Cl)(c:Cl)(H:Int)(ts:List Ty)(v:VS)(ts0 ts1:List Ty): Prop where
 app:ts=ts0++ts1
 at_:0<=c.at_
 hA:A c.at_.toNat=some v
 height:v.height=H-c.base
 base:0<=c.base
 tr:TrOk v
 seg:Seg A calls.length c v ts1
 below:∀t∈ts0,t.height<=c.base
 kind:v.of = -1\/(0<=v.of/\FunOk all c.fun_ v)
 same:∀(c2:Cl) (v2:VS) (H2:Int) (ts2:List Ty),c2.base=c.base->c2.fun_=c.fun_->0<=c2.at_->A c2.at_.toNat=some v2->v2.of=v.of->v2.has=v.has->v2.height=H2-c.base->TrOk v2->Seg A calls.length c2 v2 ts2->Fs A all calls c2 H2 (ts0++ts2)
 other:0<=v.of->∀(c2:Cl) (v2:VS) (H2:Int) (ts2:List Ty),c2.base=c.base->0<=c2.at_->A c2.at_.toNat=some v2->0<=v2.of->FunOk all c2.fun_ v2->v2.height=H2-c.base->TrOk v2->Seg A calls.length c2 v2 ts2->Fs A all calls c2 H2 (ts0++ts2)
 back:0<=v.of->∃cs c',calls=cs++[c']/\Fs A all cs c' (c.base+1) ts0
theorem Fs.here{A:Nat->Option VS}{all:List Thing}{calls:List Cl}{c:Cl}{H:Int}{ts:List Ty}(h:Fs A all calls c H ts): ∃v ts0 ts1,Here A all calls c H ts v ts0 ts1:=by
 cases h with
 |prog hb ha hA ho hh ht hs =>
  rename_i v
  refine⟨v,[],ts,?_⟩
  exact { app:=rfl,at_:=ha,hA:=hA,height:=by omega,base:=by omega,tr:=ht,seg:=hs,below:=fun t ht=>by simp at ht,kind:=.inl ho,
          same:=fun c2 v2 H2 ts2 e1 e2 e3 e4 e5 e6 e7 e8 e9=>.prog (by omega) e3 e4 (by omega) (by omega) e8 e9,
          other:=fun c=>by omega,back:=fun c=>by omega }
 |func up hup hb ha hA ho hf hh ht hs =>
  rename_i cs c' ts' ts1 v
  refine⟨v,ts',ts1,?_⟩
  have hl:(cs++[c']).length=cs.length+1:=by simp
  exact { app:=rfl,at_:=ha,hA:=hA,height:=hh,base:=hb,tr:=ht,seg:=by rw[hl];exact hs,below:=hup,kind:=.inr ⟨ho,hf⟩,
          same:=fun c2 v2 H2 ts2 e1 e2 e3 e4 e5 e6 e7 e8 e9=>.func (by rw[e1];exact up) (by rw[e1];exact hup) (by omega) e3 e4 (by omega) (by
           obtain⟨i,h1,h2,h3,h4,h5⟩:=hf
           exact⟨i,by rw[e2];exact h1,h2,h3,by rw[h4,e5],by rw[h5,e6]⟩) (by omega) e8 (by rw[hl]at e9;exact e9),
          other:=fun _ c2 v2 H2 ts2 e1 e3 e4 e5 e6 e7 e8 e9=>.func (by rw[e1];exact up) (by rw[e1];exact hup) (by omega) e3 e4 e5 e6 (by omega) e8 (by rw[hl]at e9;exact e9),
          back:=fun _=>⟨cs,c',rfl,up⟩ }
def zMc(all all':List Thing): Prop:=all.length<=all'.length/\∀i,i<all.length->(zAV all' i).kind=(zAV all i).kind/\(zAV all' i).tag=(zAV all i).tag/\(zAV all' i).parts.length=(zAV all i).parts.length
theorem FunOk.grown{all all':List Thing}{r:Rf}{v:VS}(g:zMc all all')(h:FunOk all r v): FunOk all' r v:=by
 obtain⟨i,h1,h2,h3,h4,h5⟩:=h
 obtain⟨g1,g2,g3⟩:=g.2 i h2
 exact⟨i,h1,qAY h2 g.1,g1.trans h3,g2.trans h4,by rw[g3];exact h5⟩
theorem Fs.grown{A:Nat->Option VS}{all all':List Thing}(g:zMc all all'){calls:List Cl}{c:Cl}{H:Int}{ts:List Ty}(h:Fs A all calls c H ts): Fs A all' calls c H ts:=by
 induction h with
 |prog hb ha hA ho hh ht hs=>exact .prog hb ha hA ho hh ht hs
 |func up hup hb ha hA ho hf hh ht hs ih=>exact .func ih hup hb ha hA ho (hf.grown g) hh ht hs
theorem zHX{α:Type}{l:List α}{x:α}(h:l.getLast? = some x): l=l.dropLast++[x]:=by
 obtain⟨r,rfl⟩:=List.getLast?_eq_some_iff.1 h;simp
theorem Seg.raise{A:Nat->Option VS}{d:Nat}{c:Cl}{v:VS}{ts:List Ty}{t:Ty}(hs:Seg A d c v ts)(ht:TrOk v)(hl:ts.getLast? = some t):
  ∃h,v.tries=v.tries.dropLast++[h]/\0<=h/\h<=v.height/\t.height=c.base+h/\t.calls=d/\t.c.base=c.base/\t.c.fun_=c.fun_/\0<=t.c.at_/\A t.c.at_.toNat=some ⟨v.of,v.has,h+1,v.tries.dropLast⟩/\TrOk ⟨v.of,v.has,h+1,v.tries.dropLast⟩/\Seg A d t.c ⟨v.of,v.has,h+1,v.tries.dropLast⟩ ts.dropLast:=by
 have e:=zHX hl
 have hne:v.tries≠[]:=fun c=>by have:=hs.1;rw[c,e]at this;simp at this
 obtain⟨h,hh⟩:∃h,v.tries.getLast? = some h:=by
  cases hg:v.tries.getLast? with
  |none=>rw[qBb]at hg;exact absurd hg hne
  |some h=>exact⟨h,rfl⟩
 have e2:=zHX hh
 have hln:ts.dropLast.length=v.tries.dropLast.length:=by rw[qAt,qAt,hs.1]
 have hk1:ts[ts.dropLast.length]?=some t:=by
  conv=>lhs;rw[e]
  simp
 have hk2:v.tries[ts.dropLast.length]?=some h:=by
  rw[hln];conv=>lhs;rw[e2]
  simp
 obtain⟨h1,h2,h3,h4,h5,h6⟩:=hs.2 _ t h hk1 hk2
 have hm:=ht.le h (qAK hk2)
 have htk:v.tries.take ts.dropLast.length=v.tries.dropLast:=by rw[hln,qAt,qBe]
 rw[htk]at h6
 have hpw:=ht.pw
 rw[e2,List.pairwise_append]at hpw
 refine⟨h,e2,hm.1,hm.2,h1,h2,h3,h4,h5,h6,⟨hpw.1,fun x hx=>⟨(ht.le x ((qBZ _ hx))).1,?_⟩,by show (0:Int)<=h+1;omega⟩,hln,fun k t' h' hk hk'=>?_⟩
 ·have:=hpw.2.2 x hx h (by simp)
  show x<=h+1;omega
 ·have hkl:=(qAA.1 hk).1
  have a1:ts[k]?=some t':=by rw[e,qAF hkl];exact hk
  have a2:v.tries[k]?=some h':=by
   show v.tries[k]?=some h'
   rw[e2,qAF (by rw[<-hln];exact hkl)];exact hk'
  obtain⟨b1,b2,b3,b4,b5,b6⟩:=hs.2 k t' h' a1 a2
  refine⟨by rw[h3];exact b1,b2,by rw[h3];exact b3,by rw[h4];exact b4,b5,?_⟩
  rw[b6]
  congr 2
  show v.tries.take k=v.tries.dropLast.take k
  rw[qBe,List.take_take,qBr (by rw[<-qAt,<-hln];omega)]
theorem Fs.raise{A:Nat->Option VS}{all:List Thing}{calls:List Cl}{c:Cl}{H:Int}{ts:List Ty}(h:Fs A all calls c H ts): ∀t,ts.getLast? = some t->
  Fs A all (calls.take t.calls.toNat) t.c (t.height+1) ts.dropLast/\0<=t.height/\t.height<=H/\0<=t.calls/\t.calls<=calls.length:=by
 induction h with
 |prog hb ha hA ho hh ht hs =>
  intro t hl
  obtain⟨x,e,e0,e1,e2,e3,e4,e5,e6,e7,e8,e9⟩:=hs.raise ht hl
  refine⟨?_,by omega,by omega,by omega,by simp[e3]⟩
  rw[List.take_nil]
  exact .prog (by omega) e6 e7 ho (by show x+1=_;omega) e8 e9
 |func up hup hb ha hA ho hf hh ht hs ih =>
  rename_i cs c' c H ts' ts1 v
  intro t hl
  by_cases hn:ts1=[]
  ·subst hn
   rw[qBC]at hl ⊢
   obtain⟨i1,i2,i3,i4,i5⟩:=ih t hl
   have:=hup t (qBP hl)
   have:=ht.nn
   refine⟨?_,i2,by omega,i4,by simp;omega⟩
   rw[qBA (by omega)]
   exact i1
  ·have hl':ts1.getLast? = some t:=by rw[List.getLast?_append]at hl;cases hg:ts1.getLast? with
    |none=>rw[qBb]at hg;exact absurd hg hn
    |some y=>rw[hg]at hl;simpa using hl
   obtain⟨x,e,e0,e1,e2,e3,e4,e5,e6,e7,e8,e9⟩:=hs.raise ht hl'
   have hcl:t.calls=((cs++[c']).length:Int):=by rw[e3];simp
   refine⟨?_,by omega,by omega,by omega,by omega⟩
   rw[hcl,qAj,qA4,List.dropLast_append_of_ne_nil hn]
   exact .func (by rw[e4];exact up) (by rw[e4];exact hup) (by omega) e6 e7 ho (by
    obtain⟨i,h1,h2,h3,h4,h5⟩:=hf
    exact⟨i,by rw[e5];exact h1,h2,h3,h4,h5⟩) (by show x+1=_;omega) e8 e9
def zRA: Rf->Prop
 | .n v=>Wn v=v
 | .b _=>True
theorem zaK(n:Int): Wn (Wn n)=Wn n:=by unfold Wn;omega
theorem zPS(n:Int): zRA (numR n):=zaK n
structure ImgOk(m:Img): Prop where
 pool:m.pool.length<=4000
 code:m.code.length<=20000
 thing:∀c∈m.pool,(c.isText=true->c.text.length<=200)/\Wn c.num=c.num
 ins:∀i∈m.code,0<=i.op/\i.op<=20/\0<=i.a/\i.a<=1048576/\0<=i.b/\i.b<=1048576/\(15<=i.op->i.a<m.code.length)
structure Ov(m:Img)(A:Nat->Option VS)(o:Thing): Prop where
 kind:o.kind=1\/o.kind=2\/o.kind=3\/o.kind=4
 con:o.kind=1->o.tag<m.pool.length
 fn:o.kind=2->A o.tag.toNat=some ⟨o.tag,o.parts.length,1,[]⟩
 cell:o.kind=3->o.parts.length=1
 txt:o.kind=4->o.parts=[]/\o.tag=o.text.length/\o.text.length<=200
 few:o.parts.length<=4000
 tag:0<=o.tag/\o.tag<=1048576
 num:∀r∈o.parts,zRA r
structure Lay(m:Img)(A:Nat->Option VS)(s:St): Prop where
 nodup:s.ly.Nodup
 lt:∀i∈s.ly,i<s.all.length
 roots:∀i,Rf.b i∈s.roots->i∈s.ly
 closed:Closed s.all s.ly
 used:s.used=(sumN s.all s.ly:Int)
 nums:∀r∈s.roots,zRA r
 objs:∀i,i<s.all.length->Ov m A (zAV s.all i)
 room:s.used<=s.words
 old:∀i,i<s.all.length->(zAV s.all i).kind=1->∀j,Rf.b j∈(zAV s.all i).parts->j<i
structure Val(s:St)(r:Rf): Prop where
 num:zRA r
 ly:∀i,r=.b i->i∈s.ly
variable {con:List UInt8->Bool}{m:Img}{A:Nat->Option VS}
theorem Lay.val{s:St}(h:Lay m A s){r:Rf}(hr:r∈s.roots): Val s r:=⟨h.nums r hr,fun i e=>h.roots i (e▸hr)⟩
theorem Lay.stack{s:St}(h:Lay m A s){r:Rf}(hr:r∈s.stack): Val s r:=h.val (qAo _ hr)
theorem Lay.fun_{s:St}(h:Lay m A s): Val s s.c.fun_:=h.val (by simp[St.roots])
theorem Lay.part{s:St}(h:Lay m A s){i:Nat}(hi:i∈s.ly){r:Rf}(hr:r∈(zAV s.all i).parts): Val s r :=
 ⟨(h.objs i (h.lt i hi)).num r hr,fun j e=>h.closed i hi j (e▸hr)⟩
theorem Val.n(s:St){v:Int}(h:Wn v=v): Val s (.n v):=⟨h,fun i e=>by cases e⟩
theorem Val.numR(s:St)(n:Int): Val s (numR n):=⟨zPS n,fun i e=>by cases e⟩
theorem Lay.sub{s t:St}(h:Lay m A s)(h1:t.all=s.all)(h2:t.ly=s.ly)(h3:t.used=s.used)(h4:t.words=s.words)(hr:∀r∈t.roots,Val s r): Lay m A t where
 nodup:=by rw[h2];exact h.nodup
 lt:=by rw[h1,h2];exact h.lt
 roots i hi:=by rw[h2];exact(hr _ hi).ly i rfl
 closed:=by rw[h1,h2];exact h.closed
 used:=by rw[h1,h2,h3];exact h.used
 nums r hm:=(hr r hm).num
 objs:=by rw[h1];exact h.objs
 room:=by rw[h3,h4];exact h.room
 old:=by rw[h1];exact h.old
theorem zDo{s:St}{r:Rf}: r∈s.roots↔r∈s.stack\/r=s.c.fun_\/(∃c∈s.calls,c.fun_=r)\/∃t∈s.tries,t.c.fun_=r:=by
 simp[St.roots]
theorem Lay.of{s t:St}(h:Lay m A s)(h1:t.all=s.all)(h2:t.ly=s.ly)(h3:t.used=s.used)(h4:t.words=s.words)
  (a1:∀r∈t.stack,Val s r) (a2:Val s t.c.fun_) (a3:∀c∈t.calls,Val s c.fun_) (a4:∀y∈t.tries,Val s y.c.fun_):Lay m A t :=
 h.sub h1 h2 h3 h4 fun r hr=>by
  rcases zDo.1 hr with h|h|⟨c,h,e⟩|⟨c,h,e⟩
  ·exact a1 r h
  ·rw[h];exact a2
  ·rw[<-e];exact a3 c h
  ·rw[<-e];exact a4 c h
theorem Lay.call{s:St}(h:Lay m A s){c:Cl}(hc:c∈s.calls): Val s c.fun_:=h.val (zDo.2 (.inr (.inr (.inl ⟨c,hc,rfl⟩))))
theorem Lay.try_{s:St}(h:Lay m A s){c:Ty}(hc:c∈s.tries): Val s c.c.fun_:=h.val (zDo.2 (.inr (.inr (.inr ⟨c,hc,rfl⟩))))
theorem Lay.gc{s:St}(h:Lay m A s)(n:Nat): Lay m A (s.gc n):=by
 unfold St.gc
 split
 ·obtain⟨h1,h2,h3,h4⟩:=zLn h.closed h.lt h.roots
  exact { nodup:=h1,lt:=fun i hi=>h.lt i (h2 i hi),roots:=h3,closed:=h4,used:=rfl,nums:=h.nums,objs:=h.objs,old:=h.old,
          room:=by
           have:=zFO (all:=s.all) h1 h2
           have h5:=h.used
           have h6:=h.room
           show ((live s.all s.roots:Nat):Int)<=s.words
           unfold live;omega }
 ·exact h
theorem zM3{s:St}(h:Lay m A s): ((live s.all s.roots:Nat):Int)<=s.used:=by
 obtain⟨h1,h2,h3,h4⟩:=zLn h.closed h.lt h.roots
 have:=zFO (all:=s.all) h1 h2
 have h5:=h.used
 unfold live;omega
theorem zGV{all:List Thing}{o:Thing}{i:Nat}(h:i<all.length): zAV (all++[o]) i=zAV all i:=by
 unfold zAV;rw[qAD,qAF h,<-qAD]
theorem zJJ{all:List Thing}{o:Thing}: zAV (all++[o]) all.length=o:=by unfold zAV;simp
theorem zS4{all:List Thing}{o:Thing}{l:List Nat}(h:∀i∈l,i<all.length): sumN (all++[o]) (l++[all.length])=sumN all l+o.need:=by
 unfold sumN
 rw[qAk,List.sum_append]
 congr 1
 ·congr 1
  refine qBU fun i hi=>?_
  have:=zGV (o:=o) (h i hi);unfold zAV at this;rw[this]
 ·simp
theorem Lay.new{s:St}(h:Lay m A s){o:Thing}{n:Nat}(ho:Ov m A o)(hp:∀r∈o.parts,Val s r)(hr:(o.need:Int)<=s.words-s.used): Lay m A (s.new o n) where
 nodup:=by
  show (s.ly++[s.all.length]).Nodup
  rw[List.nodup_append]
  exact⟨h.nodup,by simp,fun a ha b hb e=>by rw[qAO]at hb;subst hb;have:=h.lt a ha;omega⟩
 lt i hi:=by
  show i<(s.all++[o]).length
  rw[qAE]
  rcases qAd.1 (show i∈s.ly++[s.all.length]from hi)with h1|h1
  ·have:=h.lt i h1;omega
  ·rw[qAO]at h1;simp[h1]
 roots i hi:=by
  show i∈s.ly++[s.all.length]
  rw[qAd,qAO]
  rcases zDo.1 hi with h1|h1|⟨c,h1,e⟩|⟨c,h1,e⟩
  ·rcases qAd.1 (show Rf.b i∈s.stack.take (s.stack.length-n)++[Rf.b s.all.length]from h1)with h2|h2
   ·exact .inl ((h.stack (qAW h2)).ly i rfl)
   ·rw[qAO]at h2;injection h2 with h2;exact .inr h2
  ·exact .inl (h.fun_.ly i h1.symm)
  ·exact .inl ((h.call h1).ly i e)
  ·exact .inl ((h.try_ h1).ly i e)
 closed i hi j hj:=by
  show j∈s.ly++[s.all.length]
  rw[qAd]
  change i∈s.ly++[s.all.length]at hi
  change Rf.b j∈(zAV (s.all++[o]) i).parts at hj
  rcases qAd.1 hi with h1|h1
  ·rw[zGV (h.lt i h1)]at hj
   exact .inl (h.closed i h1 j hj)
  ·rw[qAO]at h1;subst h1
   rw[zJJ]at hj
   exact .inl ((hp _ hj).ly j rfl)
 used:=by
  show s.used+(o.need:Int)=((sumN (s.all++[o]) (s.ly++[s.all.length]):Nat):Int)
  rw[zS4 h.lt,h.used];omega
 nums r hr:=by
  rcases zDo.1 hr with h1|h1|⟨c,h1,e⟩|⟨c,h1,e⟩
  ·rcases qAd.1 (show r∈s.stack.take (s.stack.length-n)++[Rf.b s.all.length]from h1)with h2|h2
   ·exact(h.stack (qAW h2)).num
   ·rw[qAO]at h2;subst h2;trivial
  ·rw[h1];exact h.fun_.num
  ·rw[<-e];exact(h.call h1).num
  ·rw[<-e];exact(h.try_ h1).num
 objs i hi:=by
  show Ov m A (zAV (s.all++[o]) i)
  rcases qAR i s.all.length with h1|h1
  ·rw[zGV h1];exact h.objs i h1
  ·have h2:i<(s.all++[o]).length:=hi
   have:i=s.all.length:=by simp at h2;omega
   subst this
   rw[zJJ];exact ho
 room:=by
  show s.used+(o.need:Int)<=s.words
  omega
 old i hi hk j hj:=by
  change (zAV (s.all++[o]) i).kind=1 at hk
  change Rf.b j∈(zAV (s.all++[o]) i).parts at hj
  rcases qAR i s.all.length with h1|h1
  ·rw[zGV h1]at hk hj;exact h.old i h1 hk j hj
  ·have h2:i<(s.all++[o]).length:=hi
   have:i=s.all.length:=by simp at h2;omega
   subst this
   rw[zJJ]at hj
   exact h.lt j ((hp _ hj).ly j rfl)
theorem zRT(all:List Thing)(o:Thing): zMc all (all++[o]):=⟨by simp,fun i hi=>by rw[zGV hi];exact⟨rfl,rfl,rfl⟩⟩
theorem zGz(all:List Thing): zMc all all:=⟨qAN _,fun _ _=>⟨rfl,rfl,rfl⟩⟩
theorem zEW{all:List Thing}{o:Thing}{i j:Nat}(hi:i<all.length): zAV (all.set i o) j=if i=j then o else zAV all j:=by
 unfold zAV
 rw[qAD,qAD,qAT]
 split
 ·subst_vars;first|rfl|(rw[if_pos hi];rfl)
 ·rfl
theorem zRS{all:List Thing}{o:Thing}{i:Nat}(hi:i<all.length)(h1:o.kind=(zAV all i).kind)(h2:o.tag=(zAV all i).tag)(h3:o.parts.length=(zAV all i).parts.length): zMc all (all.set i o) :=
 ⟨by simp,fun j hj=>by
  rw[zEW hi]
  split
  ·subst_vars;exact⟨h1,h2,h3⟩
  ·exact⟨rfl,rfl,rfl⟩⟩
end Go.Vm
namespace Go.Vm
variable {con:List UInt8->Bool}{m:Img}{A:Nat->Option VS}
structure MOk(con:List UInt8->Bool)(m:Img)(A:Nat->Option VS)(s:St): Prop where
 good:Good con m A
 img:ImgOk m
 fr:Fs A s.all s.calls s.c s.stack.length s.tries
 lay:Lay m A s
 high:s.stack.length<=4000
 deep:s.calls.length<=1000
structure Now(con:List UInt8->Bool)(m:Img)(A:Nat->Option VS)(s:St)(i:Ins)(v:VS)(ts0 ts1:List Ty): Prop where
 here:Here A s.all s.calls s.c s.stack.length s.tries v ts0 ts1
 at_:m.code[s.c.at_.toNat]?=some i
 holds:(eff con m i v).holds=true
 floor:zA6 v<=v.height-(eff con m i v).takes
 behind:(eff con m i v).behind=true->A (s.c.at_+1).toNat=some { v with height:=v.height-(eff con m i v).takes+(eff con m i v).puts,tries:=if i.op=14 then v.tries.dropLast else if i.op=17 then v.tries++[v.height]else v.tries }
 there:(eff con m i v).there=true->A i.a.toNat=some { v with height:=v.height-(eff con m i v).takes+(eff con m i v).puts,tries:=if i.op=14 then v.tries.dropLast else if i.op=17 then v.tries++[v.height]else v.tries }
 try_:i.op=17->A i.a.toNat=some { v with height:=v.height+1 }
 clos:i.op=18->A i.a.toNat=some ⟨i.a,i.b,1,[]⟩
 ins:0<=i.op/\i.op<=20/\0<=i.a/\i.a<=1048576/\0<=i.b/\i.b<=1048576/\(15<=i.op->i.a<m.code.length)
theorem MOk.now{s:St}(h:MOk con m A s): ∃i v ts0 ts1,Now con m A s i v ts0 ts1:=by
 obtain⟨v,ts0,ts1,hh⟩:=h.fr.here
 obtain⟨hlt,l,hl,hall⟩:=h.good.some_ _ _ hh.hA
 obtain⟨i,hi⟩:∃i,m.code[s.c.at_.toNat]?=some i:=⟨_,qAB hlt⟩
 have hg:m.code.getD s.c.at_.toNat default=i:=by rw[qAD,hi];rfl
 have hat:=hh.at_
 unfold zKw at hl
 rw[hg]at hl
 dsimp only at hl
 split at hl
 ·cases hl
 ·rename_i hc
  injection hl with hl
  simp only[qBp,Bool.not_eq_true',decide_eq_true_eq,qAZ,not_or]at hc
  obtain⟨⟨h1,h2⟩,h3⟩:=hc
  refine⟨i,v,ts0,ts1,hh,hi,by simpa using h1,by omega,fun hb=>?_,fun hb=>?_,fun hb=>?_,fun hb=>?_,h.img.ins i (qAK hi)⟩
  ·have:=(hall ((s.c.at_.toNat:Int)+1,_) (by rw[<-hl,hb,if_pos rfl];exact qAo _ (qBS _ (qAO.2 rfl)))).2
   rw[show ((s.c.at_.toNat:Int)+1).toNat=(s.c.at_+1).toNat by omega]at this
   exact this
  ·exact(hall (i.a,_) (by rw[<-hl,hb,if_pos rfl];exact qBS _ (qAO.2 rfl))).2
  ·exact(hall (i.a,_) (by rw[<-hl,if_pos hb];exact qAo _ (qAo _ (qAo _ (qAO.2 rfl))))).2
  ·exact(hall (i.a,_) (by rw[<-hl,if_pos hb];exact qAo _ (qAo _ (qBS _ (qAO.2 rfl))))).2
theorem zD5{v:VS}{h:Int}(hl:v.tries.getLast? = some h): zA6 v=h:=by unfold zA6;rw[hl];rfl
theorem TrOk.floor{v:VS}(ht:TrOk v): ∀h∈v.tries,h<=zA6 v:=by
 intro h hm
 cases hl:v.tries.getLast? with
 |none=>rw[qBb]at hl;rw[hl]at hm;simp at hm
 |some x =>
  rw[zD5 hl]
  have e:=zHX hl
  have hp:=ht.pw
  rw[e,List.pairwise_append]at hp
  rw[e]at hm
  rcases qAd.1 hm with h1|h1
  ·exact hp.2.2 h h1 x (by simp)
  ·simp at h1;omega
theorem TrOk.floor0{v:VS}(ht:TrOk v): 0<=zA6 v:=by
 cases hl:v.tries.getLast? with
 |none=>unfold zA6;rw[hl];simp
 |some x=>rw[zD5 hl];exact(ht.le x (qBP hl)).1
theorem TrOk.tw{v:VS}(ht:TrOk v){h:Int}(hf:zA6 v<=h): TrOk { v with height:=h } :=
 ⟨ht.pw,fun x hx=>⟨(ht.le x hx).1,by have:=ht.floor x hx;show x<=h;omega⟩,by have:=ht.floor0;show 0<=h;omega⟩
theorem Now.straight{s:St}{i:Ins}{v:VS}{ts0 ts1:List Ty}(n:Now con m A s i v ts0 ts1){a:Int}{H:Int}(ha:0<=a)(hA:A a.toNat=some { v with height:=H-s.c.base })(hf:zA6 v<=H-s.c.base):
  Fs A s.all s.calls ⟨a,s.c.base,s.c.fun_⟩ H s.tries:=by
 have h:=n.here
 rw[h.app]
 exact h.same ⟨a,s.c.base,s.c.fun_⟩ _ H ts1 rfl rfl ha hA rfl rfl rfl (h.tr.tw hf) ⟨h.seg.1,fun k t x hk hx=>by
  obtain⟨b1,b2,b3,b4,b5,b6⟩:=h.seg.2 k t x hk hx
  exact⟨b1,b2,b3,b4,b5,b6⟩⟩
end Go.Vm
namespace Go.Vm
variable {con:List UInt8->Bool}{m:Img}{A:Nat->Option VS}
structure Res(con:List UInt8->Bool)(m:Img)(A:Nat->Option VS)(t:St): Prop where
 lay:Lay m A t
 ok:t.fin=0->MOk con m A t
 val:t.fin=1->t.stack≠[]
theorem Res.stop{s:St}(h:Lay m A s){e:Int}(h0:e≠0)(h1:e≠1): Res con m A (s.stop e) :=
 ⟨h.sub rfl rfl rfl rfl fun _ hr=>h.val hr,fun c=>absurd c h0,fun c=>absurd c h1⟩
theorem Res.of{t:St}(h0:t.fin=0)(h:MOk con m A t): Res con m A t:=⟨h.lay,fun _=>h,fun c=>by rw[h0]at c;cases c⟩
theorem cont{s t:St}{i:Ins}{v:VS}{ts0 ts1:List Ty}(n:Now con m A s i v ts0 ts1)(h:MOk con m A s){a:Int}(ha:0<=a)(hc:t.c=⟨a,s.c.base,s.c.fun_⟩)(hcs:t.calls=s.calls)(hts:t.tries=s.tries)(hg:zMc s.all t.all)(hl:Lay m A t)(h4:t.stack.length<=4000)
  (hA:A a.toNat=some { v with height:=(t.stack.length:Int)-s.c.base }) (hf:zA6 v<=(t.stack.length:Int)-s.c.base):MOk con m A t where
 good:=h.good
 img:=h.img
 fr:=by rw[hc,hcs,hts];exact(n.straight ha hA hf).grown hg
 lay:=hl
 high:=h4
 deep:=by rw[hcs];exact h.deep
theorem Lay.goto{s:St}(h:Lay m A s)(a:Int): Lay m A (s.goto a):=h.sub rfl rfl rfl rfl fun _ hr=>h.val hr
theorem Val.goto{s:St}{r:Rf}(h:Val s r)(a:Int): Val (s.goto a) r:=⟨h.num,h.ly⟩
theorem zEe{s:St}{k:Nat}(h:k<s.stack.length): s.top k∈s.stack:=by
 unfold St.top
 rw[qAD,qAB (by omega),qBV]
 exact qA9 _
theorem Lay.instead{s:St}(h:Lay m A s){r:Rf}(hr:Val s r)(n:Nat): Lay m A (s.instead n r) :=
 h.of rfl rfl rfl rfl (fun x hx=>by
  rcases qAd.1 (show x∈s.stack.take (s.stack.length-n)++[r]from hx)with h1|h1
  ·exact h.stack (qAW h1)
  ·rw[qAO]at h1;rw[h1];exact hr) h.fun_ (fun c hc=>h.call hc) (fun c hc=>h.try_ hc)
theorem zM6{s:St}{r:Rf}{n:Nat}: (s.instead n r).stack.length=s.stack.length-n+1:=by
 show (s.stack.take (s.stack.length-n)++[r]).length=_
 simp
theorem zH9{s:St}{i:Ins}{v:VS}{ts0 ts1:List Ty}(nw:Now con m A s i v ts0 ts1)(h:MOk con m A s){n:Nat}{r:Rf}(hr:Val s r){a:Int}(ha:0<=a)(hn:n<=s.stack.length)(h4:s.stack.length-n+1<=4000)
  (hA:A a.toNat=some { v with height:=v.height-n+1 }) (hf:zA6 v<=v.height-n):MOk con m A ((s.goto a).instead n r):=by
 have hl:((s.goto a).instead n r).stack.length=s.stack.length-n+1:=zM6 (s:=s.goto a)
 have hh:=nw.here.height
 have e:(((s.goto a).instead n r).stack.length:Int)-s.c.base=v.height-n+1:=by rw[hl];omega
 exact cont nw h ha rfl rfl rfl (zGz _) ((h.lay.goto a).instead (hr.goto a) n) (by rw[hl];exact h4) (by rw[e];exact hA) (by rw[e];omega)
theorem Now.len{s:St}{i:Ins}{v:VS}{ts0 ts1:List Ty}(nw:Now con m A s i v ts0 ts1): (s.stack.length:Int)=s.c.base+v.height/\0<=s.c.base/\0<=zA6 v/\0<=s.c.at_ :=
 ⟨by have:=nw.here.height;omega,nw.here.base,nw.here.tr.floor0,nw.here.at_⟩
theorem zKm{s:St}{i:Ins}{v:VS}{ts0 ts1:List Ty}(nw:Now con m A s i v ts0 ts1)(h:MOk con m A s)(h0:s.fin=0){r:Rf}(hr:Val s r)(ht:(eff con m i v).takes=0)(hp:(eff con m i v).puts=1)(hb:(eff con m i v).behind=true)(h14:i.op≠14)(h17:i.op≠17):
  Res con m A ((s.goto (s.c.at_+1)).push r):=by
 obtain⟨hl,hb0,hf0,ha⟩:=nw.len
 have hA:=nw.behind hb
 rw[ht,hp,if_neg h14,if_neg h17]at hA
 have hf:=nw.floor
 rw[ht]at hf
 unfold St.push
 split
 ·exact .stop (h.lay.goto _) (by decide) (by decide)
 ·rename_i hh
  have hh2:s.stack.length+1<=4000:=by
   simp only[St.high,decide_eq_true_eq]at hh
   change ¬(s.stack.length:Int)+1>4000 at hh
   omega
  exact .of h0 (zH9 nw h hr (by omega) (qAX _) (by omega) (by rw[hA];simp) (by simpa using hf))
theorem zIs{s:St}{i:Ins}{v:VS}{ts0 ts1:List Ty}(nw:Now con m A s i v ts0 ts1)(h:MOk con m A s)(h0:s.fin=0){o:Thing}{n:Nat}(ho:Ov m A o)(hp:∀r∈o.parts,r∈s.stack)(ht:(eff con m i v).takes=n)(hpu:(eff con m i v).puts=1)(hb:(eff con m i v).behind=true)(h14:i.op≠14)(h17:i.op≠17):
  Res con m A ((s.goto (s.c.at_+1)).block o n):=by
 obtain⟨hl,hb0,hf0,ha⟩:=nw.len
 have hA:=nw.behind hb
 rw[ht,hpu,if_neg h14,if_neg h17]at hA
 have hf:=nw.floor
 rw[ht]at hf
 unfold St.block
 split
 ·exact .stop (h.lay.goto _) (by decide) (by decide)
 ·rename_i hh
  have hh2:s.stack.length+1<=4000+n:=by
   simp only[St.high,decide_eq_true_eq]at hh
   change ¬(s.stack.length:Int)+(1-(n:Int))>4000 at hh
   omega
  have hg:=(h.lay.goto (s.c.at_+1)).gc o.need
  have e:∀(k:Nat) (q:St),(q.gc k).stack=q.stack/\(q.gc k).c=q.c/\(q.gc k).calls=q.calls/\(q.gc k).tries=q.tries/\(q.gc k).all=q.all/\(q.gc k).fin=q.fin:=fun k q=>by unfold St.gc;split <;> exact⟨rfl,rfl,rfl,rfl,rfl,rfl⟩
  obtain⟨e1,e2,e3,e4,e5,e6⟩:=e o.need (s.goto (s.c.at_+1))
  unfold St.alloc
  split
  ·exact .stop hg (by decide) (by decide)
  ·rename_i hr
   generalize (s.goto (s.c.at_+1)).gc o.need=q at *
   have hq:(q.new o n).stack.length=s.stack.length-n+1:=by
    show (q.stack.take (q.stack.length-n)++[Rf.b q.all.length]).length=_
    rw[e1];show (s.stack.take (s.stack.length-n)++[Rf.b q.all.length]).length=_
    simp
   have hn:n<=s.stack.length:=by omega
   have hval:((q.new o n).stack.length:Int)-s.c.base=v.height-n+1:=by rw[hq];omega
   refine .of (by show q.fin=0;rw[e6];exact h0) (cont nw h (a:=s.c.at_+1) (by omega) (by show q.c=_;rw[e2];rfl) (by show q.calls=_;rw[e3];rfl) (by show q.tries=_;rw[e4];rfl) (by show zMc s.all (q.all++[o]);rw[e5];exact zRT _ _) (hg.new ho (fun r hr=>hg.stack (by rw[e1];exact hp r hr)) (by omega)) (by rw[hq];omega) (by rw[hval];exact hA) (by rw[hval];omega))
theorem zKk{s:St}{i:Ins}{v:VS}{ts0 ts1:List Ty}(nw:Now con m A s i v ts0 ts1)(h:MOk con m A s)(h0:s.fin=0)(a:Int){k:Int}(ht:(eff con m i v).takes>=1): Res con m A ((s.goto a).raise k):=by
 obtain⟨hl,hb0,hf0,ha⟩:=nw.len
 have hfl:=nw.floor
 unfold St.raise
 show Res con m A (match s.tries.getLast? with|none=>_|some t=>_)
 cases hg:s.tries.getLast? with
 |none=>exact⟨h.lay.sub rfl rfl rfl rfl fun _ hr=>h.lay.val hr,fun c=>absurd c (by simp),fun c=>absurd c (by simp)⟩
 |some t =>
  obtain⟨f1,f2,f3,f4,f5⟩:=h.fr.raise t hg
  have hht:t.height+1<=s.stack.length:=by
   have hm:t∈ts0++ts1:=by rw[<-nw.here.app];exact qBP hg
   by_cases hn:ts1=[]
   ·
    rw[hn,qBC]at hm
    have:=nw.here.below t hm
    have:=nw.here.tr.floor0
    omega
   ·have hl1:ts1.getLast? = some t:=by
     have:=hg;rw[nw.here.app,List.getLast?_append]at this
     cases hq:ts1.getLast? with
     |none=>rw[qBb]at hq;exact absurd hq hn
     |some y=>rw[hq]at this;simpa using this
    obtain⟨x,e,e0,e1,e2,_⟩:=nw.here.seg.raise nw.here.tr hl1
    have:zA6 v=x:=zD5 (by rw[e];simp)
    omega
  refine .of h0 ⟨h.good,h.img,?_,?_,?_,?_⟩
  ·show Fs A s.all (s.calls.take t.calls.toNat) t.c ((s.stack.take t.height.toNat++[numR k]).length:Nat) s.tries.dropLast
   have:((s.stack.take t.height.toNat++[numR k]).length:Int)=t.height+1:=by simp;omega
   rw[this];exact f1
  ·refine h.lay.of rfl rfl rfl rfl (fun r hr=>?_) (h.lay.try_ (qBP hg)) (fun c hc=>h.lay.call (qAW hc)) (fun c hc=>h.lay.try_ (qBZ _ hc))
   rcases qAd.1 (show r∈s.stack.take t.height.toNat++[numR k]from hr)with h1|h1
   ·exact h.lay.stack (qAW h1)
   ·rw[qAO]at h1;rw[h1];exact Val.numR _ _
  ·show (s.stack.take t.height.toNat++[numR k]).length<=4000
   have:=h.high
   simp;omega
  ·show (s.calls.take t.calls.toNat).length<=1000
   have:=h.deep
   simp;omega
end Go.Vm
namespace Go.Vm
variable {con:List UInt8->Bool}{m:Img}{A:Nat->Option VS}
section
variable {s:St}{i:Ins}{v:VS}{ts0 ts1:List Ty}
theorem Lay.obj{s:St}(h:Lay m A s){r:Rf}{k:Int}(hr:Val s r)(ho:s.of r k=true): ∃j,r=.b j/\j∈s.ly/\(zAV s.all j).kind=k/\s.obj r=zAV s.all j/\Ov m A (zAV s.all j):=by
 cases r with
 |n v=>simp[St.of]at ho
 |b j =>
  have:=hr.ly j rfl
  exact⟨j,rfl,this,by simpa[St.of,zAV]using ho,rfl,h.objs j (h.lt j this)⟩
theorem zMz(a:Int)(r:Rf)(k:Int): (s.goto a).of r k=s.of r k:=rfl
theorem zHW(a:Int)(k:Nat): (s.goto a).top k=s.top k:=rfl
theorem zHg(a:Int)(r:Rf): (s.goto a).obj r=s.obj r:=by cases r <;> rfl
theorem zWi(nw:Now con m A s i v ts0 ts1)(h:MOk con m A s)(h0:s.fin=0){n:Nat}(x:Int)(ht:(eff con m i v).takes=n)(hp:(eff con m i v).puts=1)(hb:(eff con m i v).behind=true)(h14:i.op≠14)(h17:i.op≠17)(hn:1<=n):
  Res con m A ((s.goto (s.c.at_+1)).numI n x):=by
 obtain⟨hl,hb0,hf0,ha⟩:=nw.len
 have hA:=nw.behind hb
 rw[ht,hp,if_neg h14,if_neg h17]at hA
 have hf:=nw.floor
 rw[ht]at hf
 have:=h.high
 exact .of h0 (zH9 nw h (Val.numR _ _) (by omega) (by omega) (by omega) hA hf)
theorem zRJ(nw:Now con m A s i v ts0 ts1)(h:MOk con m A s)(h0:s.fin=0){n:Nat}{r:Rf}(hr:Val s r)(ht:(eff con m i v).takes=n)(hp:(eff con m i v).puts=1)(hb:(eff con m i v).behind=true)(h14:i.op≠14)(h17:i.op≠17)(hn:1<=n):
  Res con m A ((s.goto (s.c.at_+1)).instead n r):=by
 obtain⟨hl,hb0,hf0,ha⟩:=nw.len
 have hA:=nw.behind hb
 rw[ht,hp,if_neg h14,if_neg h17]at hA
 have hf:=nw.floor
 rw[ht]at hf
 have:=h.high
 exact .of h0 (zH9 nw h hr (by omega) (by omega) (by omega) hA hf)
theorem effP(hp:i.op=12): eff con m i v=⟨takes i.a,1,decide (i.a<=13),true,false⟩:=by simp[eff,hp]
theorem zQj{t:St}{x:List UInt8}(h:Res con m A t): Res con m A (t.put x) :=
 ⟨h.lay.sub rfl rfl rfl rfl fun _ hr=>h.lay.val hr,fun c=>let k:=h.ok c;⟨k.good,k.img,k.fr,k.lay.sub rfl rfl rfl rfl fun _ hr=>k.lay.val hr,k.high,k.deep⟩,h.val⟩
theorem zQG{p:Int}(h0:0<=p)(h:p<=13): 1<=takes p/\takes p<=2:=by
 unfold takes
 rw[if_neg (by omega)]
 split <;> omega
theorem ints_ok(nw:Now con m A s i v ts0 ts1)(h:MOk con m A s)(h0:s.fin=0)(hop:i.op=12)(hp:i.a<7)(a b:Int): Res con m A ((s.goto (s.c.at_+1)).ints i.a a b):=by
 have ha:=nw.ins.2.2.1
 have e:=effP (con:=con) (m:=m) (v:=v) hop
 have e2:takes i.a=2:=by unfold takes;rw[if_neg (by omega),if_pos (by omega)]
 rw[e2]at e
 have hN:∀x,Res con m A ((s.goto (s.c.at_+1)).numI 2 x):=fun x=>zWi nw h h0 x (by rw[e];rfl) (by rw[e]) (by rw[e]) (by omega) (by omega) (by omega)
 have hR:∀k,Res con m A ((s.goto (s.c.at_+1)).raise k):=fun k=>zKk nw h h0 _ (by rw[e];show (2:Int)>=1;decide)
 unfold St.ints
 repeat' split
 all_goals first|exact hN _|exact hR _
theorem zWY(shw:Int->List UInt8)(nw:Now con m A s i v ts0 ts1)(h:MOk con m A s)(h0:s.fin=0)(hop:i.op=12): Res con m A ((s.goto (s.c.at_+1)).prim shw i.a):=by
 obtain⟨hl,hb0,hf0,hat⟩:=nw.len
 have ha:=nw.ins.2.2.1
 have e:=effP (con:=con) (m:=m) (v:=v) hop
 have hh:=nw.holds
 rw[e]at hh
 simp only[decide_eq_true_eq]at hh
 obtain⟨t1,t2⟩:=zQG ha hh
 have hf:=nw.floor
 rw[e]at hf
 change zA6 v<=v.height-takes i.a at hf
 have hS:∀k,k≠0->k≠1->Res con m A ((s.goto (s.c.at_+1)).stop k):=fun k a b=>.stop (h.lay.goto _) a b
 have hR:∀k,Res con m A ((s.goto (s.c.at_+1)).raise k):=fun k=>zKk nw h h0 _ (by rw[e];exact t1)
 have hI:∀(n:Nat) (r:Rf),Val s r->takes i.a=n->Res con m A ((s.goto (s.c.at_+1)).instead n r):=fun n r hr hn=>zRJ nw h h0 hr (by rw[e];exact hn) (by rw[e]) (by rw[e]) (by omega) (by omega) (by omega)
 have hB:∀(o:Thing) (n:Nat),Ov m A o->(∀r∈o.parts,r∈s.stack)->takes i.a=n->Res con m A ((s.goto (s.c.at_+1)).block o n):=fun o n ho hp hn=>zIs nw h h0 ho hp (by rw[e];exact hn) (by rw[e]) (by rw[e]) (by omega) (by omega)
 have hva:Val s (s.top ((takes i.a).toNat-1)):=h.lay.stack (zEe (by omega))
 have hvb:Val s (s.top 0):=h.lay.stack (zEe (by omega))
 unfold St.prim
 dsimp only
 rw[zHW,zHW]
 generalize s.top ((takes i.a).toNat-1)=a at *
 by_cases c7:i.a<7
 ·rw[if_pos c7]
  generalize s.top 0=b at *
  cases a with
  |b _=>exact hS 4 (by decide) (by decide)
  |n x=>cases b with
   |b _=>exact hS 4 (by decide) (by decide)
   |n y=>exact ints_ok nw h h0 hop c7 x y
 rw[if_neg c7]
 by_cases c1:i.a=7
 ·rw[if_pos c1]
  split
  ·exact hS 4 (by decide) (by decide)
  ·split
   ·exact hR _
   ·rename_i hk hlen
    exact hB _ 2 ⟨by simp[zBy],by simp[zBy],by simp[zBy],by simp[zBy],fun _=>⟨rfl,rfl,by simpa[zBy]using hlen⟩,by simp[zBy],⟨by simp[zBy];omega,by
     have:((s.goto (s.c.at_+1)).obj a).text.length+((s.goto (s.c.at_+1)).obj (s.top 0)).text.length<=200:=by simpa using hlen
     simp only[zBy,qAE];omega⟩,by simp[zBy]⟩ (by simp[zBy]) (by rw[c1];rfl)
 rw[if_neg c1]
 by_cases c2:i.a=8
 ·rw[if_pos c2]
  split
  ·exact hS 4 (by decide) (by decide)
  ·exact hI 1 _ (Val.numR _ _) (by rw[c2];rfl)
 rw[if_neg c2]
 by_cases c3:i.a=13
 ·rw[if_pos c3]
  split
  ·exact hS 4 (by decide) (by decide)
  ·exact zQj (hI 1 _ (Val.numR _ _) (by rw[c3];rfl))
 rw[if_neg c3]
 by_cases c4:i.a=9
 ·rw[if_pos c4]
  have ht:takes i.a=1:=by rw[c4];rfl
  have hlen:1<=s.stack.length:=by omega
  have hp:(s.goto (s.c.at_+1)).partsT 1=s.stack.drop (s.stack.length-1):=rfl
  rw[hp]
  have hpl:(s.stack.drop (s.stack.length-1)).length=1:=by simp;omega
  exact hB _ 1 ⟨by simp,by simp,by simp,fun _=>hpl,by simp,by show (s.stack.drop _).length<=_;omega,by simp,fun r hr=>(h.lay.stack (qAl hr)).num⟩ (fun r hr=>qAl hr) ht
 rw[if_neg c4]
 by_cases c5:i.a=10
 ·rw[if_pos c5]
  split
  ·exact hS 4 (by decide) (by decide)
  ·rename_i hk
   simp only[Bool.not_eq_true',Bool.not_eq_false]at hk
   rw[zMz]at hk
   obtain⟨j,rfl,hj,hkd,hoj,ov⟩:=h.lay.obj hva (by simpa using hk)
   rw[zHg,hoj]
   have hc:=ov.cell hkd
   refine hI 1 _ (h.lay.part hj ?_) (by rw[c5];rfl)
   rw[qAD,qAB (by omega),qBV]
   exact qA9 _
 rw[if_neg c5]
 by_cases c6:i.a=11
 ·rw[if_pos c6]
  cases a with
  |n x=>exact hS 4 (by decide) (by decide)
  |b j =>
   dsimp only
   split
   ·exact hS 4 (by decide) (by decide)
   ·rename_i hk
    have hkd:(zAV s.all j).kind=3:=by
     simp only[ne_eq,Classical.not_not]at hk;exact hk
    have hj:=hva.ly j rfl
    have hjl:=h.lay.lt j hj
    have ov:=h.lay.objs j hjl
    have hc:=ov.cell hkd
    have e3:takes i.a=2:=by rw[c6];rfl
    have hA:=nw.behind (by rw[e])
    rw[e,if_neg (by omega),if_neg (by omega)]at hA
    dsimp only at hA
    rw[e3]at hA hf
    generalize hob:({ kind:=((s.goto (s.c.at_+1)).all.getD j default).kind,tag:=((s.goto (s.c.at_+1)).all.getD j default).tag,text:=((s.goto (s.c.at_+1)).all.getD j default).text,parts:=((s.goto (s.c.at_+1)).all.getD j default).parts.set 0 (s.top 0) }:Thing)=o
    have o1:o.kind=3:=by rw[<-hob];exact hkd
    have o2:o.tag=(zAV s.all j).tag:=by rw[<-hob];rfl
    have o3:o.parts=(zAV s.all j).parts.set 0 (s.top 0):=by rw[<-hob];rfl
    have o4:o.text=(zAV s.all j).text:=by rw[<-hob];rfl
    have hgr:zMc s.all (s.all.set j o):=zRS hjl (o1.trans hkd.symm) o2 (by rw[o3];simp)
    have hneed:∀x,((s.all.set j o).getD x default).need=(s.all.getD x default).need:=fun x=>by
     have:=zEW (o:=o) (j:=x) hjl
     unfold zAV at this
     rw[this]
     split
     ·subst_vars
      unfold Thing.need
      have hk3:(s.all.getD x default).kind=3:=hkd
      rw[o1,hk3,if_neg (by decide),if_neg (by decide),o3];simp[zAV]
     ·rfl
    have hpv:∀r∈o.parts,Val s r:=fun r hr=>by
     rw[o3]at hr
     rcases List.mem_or_eq_of_mem_set hr with h1|h1
     ·exact h.lay.part hj h1
     ·rw[h1];exact hvb
    have hlay:Lay m A ({ s.goto (s.c.at_+1)with all:=s.all.set j o }:St) :=
     { nodup:=h.lay.nodup,lt:=fun x hx=>by show x<(s.all.set j o).length;rw[qAa];exact h.lay.lt x hx,roots:=h.lay.roots,
       closed:=fun x hx y hy=>by
        change Rf.b y∈(zAV (s.all.set j o) x).parts at hy
        rw[zEW hjl]at hy
        split at hy
        ·exact(hpv _ hy).ly y rfl
        ·exact h.lay.closed x hx y hy
       used:=by
        show s.used=_
        rw[h.lay.used]
        unfold sumN
        congr 3
        funext x;exact(hneed x).symm
       nums:=h.lay.nums
       objs:=fun x hx=>by
        show Ov m A (zAV (s.all.set j o) x)
        have hx':x<s.all.length:=by have:x<(s.all.set j o).length:=hx;rwa [qAa]at this
        rw[zEW hjl]
        split
        ·exact⟨.inr (.inr (.inl o1)),(by rw[o1];intro c;cases c),(by rw[o1];intro c;cases c),fun _=>by rw[o3];simpa using hc,(by rw[o1];intro c;cases c),by rw[o3,qAa];exact ov.few,by rw[o2];exact ov.tag,fun r hr=>(hpv r hr).num⟩
        ·exact h.lay.objs x hx'
       room:=h.lay.room
       old:=fun x hx hk1 y hy=>by
        change (zAV (s.all.set j o) x).kind=1 at hk1
        change Rf.b y∈(zAV (s.all.set j o) x).parts at hy
        have hx':x<s.all.length:=by have:x<(s.all.set j o).length:=hx;rwa [qAa]at this
        rw[zEW hjl]at hk1 hy
        split at hk1
        ·rw[o1]at hk1;cases hk1
        ·rename_i hne;rw[if_neg hne]at hy;exact h.lay.old x hx' hk1 y hy }
    have hq:((({ s.goto (s.c.at_+1)with all:=s.all.set j o }:St).numI 2 0).stack.length:Int)-s.c.base=v.height-2+1:=by
     show ((s.stack.take (s.stack.length-2)++[numR 0]).length:Int)-s.c.base=_
     simp;omega
    have hq4:(({ s.goto (s.c.at_+1)with all:=s.all.set j o }:St).numI 2 0).stack.length<=4000:=by
     have:=h.high
     show (s.stack.take (s.stack.length-2)++[numR 0]).length<=4000
     simp;omega
    exact .of h0 (cont nw h (a:=s.c.at_+1) (by omega) rfl rfl rfl hgr (hlay.instead (Val.numR _ _) 2) hq4 (hA.trans (by rw[<-hq];rfl)) (Int.le_trans (show zA6 v<=v.height-2+1 by omega) (Int.le_of_eq hq.symm)))
 rw[if_neg c6]
 cases a with
 |b j=>exact hS 4 (by decide) (by decide)
 |n x =>
  have c12:i.a=12:=by omega
  have e3:takes i.a=1:=by rw[c12];rfl
  have hA:=nw.behind (by rw[e])
  rw[e,if_neg (by omega),if_neg (by omega)]at hA
  dsimp only at hA
  rw[e3]at hA hf
  have hq:((s.goto (s.c.at_+1)).stack.length:Int)-s.c.base=v.height-1+1:=by show (s.stack.length:Int)-s.c.base=_;omega
  exact zQj (.of h0 (cont nw h (a:=s.c.at_+1) (by omega) rfl rfl rfl (zGz _) (h.lay.goto _) h.high (by rw[hq];exact hA) (by rw[hq];omega)))
end
end Go.Vm
namespace Go.Vm
variable {con:List UInt8->Bool}{m:Img}{A:Nat->Option VS}
section
variable {s:St}{i:Ins}{v:VS}{ts0 ts1:List Ty}
theorem zJW(nw:Now con m A s i v ts0 ts1)(h:MOk con m A s)(h0:s.fin=0){a:Int}(ha:0<=a)(hA:A a.toNat=some { v with height:=v.height }): Res con m A (s.goto a):=by
 obtain⟨hl,hb0,hf0,hat⟩:=nw.len
 have hq:((s.goto a).stack.length:Int)-s.c.base=v.height:=by show (s.stack.length:Int)-s.c.base=_;omega
 have:=nw.here.tr.floor0
 have hfl:zA6 v<=v.height:=by
  cases hg:v.tries.getLast? with
  |none=>unfold zA6;rw[hg];exact nw.here.tr.nn
  |some x=>rw[zD5 hg];exact(nw.here.tr.le x (qBP hg)).2
 exact .of h0 (cont nw h ha rfl rfl rfl (zGz _) (h.lay.goto _) h.high (by rw[hq];exact hA) (by rw[hq];exact hfl))
theorem zQw(nw:Now con m A s i v ts0 ts1)(h:MOk con m A s)(h0:s.fin=0){n:Nat}{a:Int}(ha:0<=a)(hn:(n:Int)<=v.height)(hA:A a.toNat=some { v with height:=v.height-n })(hf:zA6 v<=v.height-n):
  Res con m A { s.goto a with stack:=s.stack.take (s.stack.length-n) }:=by
 obtain⟨hl,hb0,hf0,hat⟩:=nw.len
 have hq:((s.stack.take (s.stack.length-n)).length:Int)-s.c.base=v.height-n:=by simp;omega
 have:=h.high
 refine .of h0 (cont nw h (a:=a) ha rfl rfl rfl (zGz _) (h.lay.of rfl rfl rfl rfl (fun r hr=>h.lay.stack (qAW hr)) h.lay.fun_ (fun c hc=>h.lay.call hc) (fun c hc=>h.lay.try_ hc)) ?_ ?_ ?_)
 ·show (s.stack.take (s.stack.length-n)).length<=4000;simp;omega
 ·exact hA.trans (by rw[<-hq])
 ·exact Int.le_trans hf (Int.le_of_eq hq.symm)
theorem zVI(nw:Now con m A s i v ts0 ts1)(h:MOk con m A s)(h0:s.fin=0)(tail:Bool)(hop:i.op=if tail then 8 else 7): Res con m A ((s.goto (s.c.at_+1)).app tail):=by
 obtain⟨hl,hb0,hf0,hat⟩:=nw.len
 have e:eff con m i v=if tail then⟨2,0,decide (v.of>=0)&&v.tries.isEmpty,false,false⟩else⟨2,1,true,true,false⟩:=by cases tail <;> simp[eff,hop]
 have ht:(eff con m i v).takes=2:=by rw[e];cases tail <;> rfl
 have hf:=nw.floor
 rw[ht]at hf
 have hlen:2<=s.stack.length:=by omega
 have hv1:Val s (s.top 1):=h.lay.stack (zEe (by omega))
 have hv0:Val s (s.top 0):=h.lay.stack (zEe (by omega))
 unfold St.app
 dsimp only
 rw[zHW,zHW,zMz]
 split
 ·exact .stop (h.lay.goto _) (by decide) (by decide)
 ·rename_i hk
  obtain⟨j,hj1,hj,hkd,hoj,ov⟩:=h.lay.obj hv1 (by simpa using hk)
  rw[zHg,hoj]
  have hjl:=h.lay.lt j hj
  have htag:=ov.tag
  have hfn:=ov.fn hkd
  have hfo:FunOk s.all (s.top 1) ⟨(zAV s.all j).tag,((zAV s.all j).parts.length:Nat),1,[]⟩:=⟨j,hj1,hjl,hkd,rfl,rfl⟩
  have htr:TrOk ⟨(zAV s.all j).tag,((zAV s.all j).parts.length:Nat),1,[]⟩:=⟨List.Pairwise.nil,by simp,by show (0:Int)<=1;decide⟩
  cases tail with
  |true =>
   rw[if_pos rfl]
   rw[if_pos rfl]at e
   have hh:=nw.holds
   rw[e]at hh
   simp only[qAZ,decide_eq_true_eq,List.isEmpty_iff]at hh
   have hts1:ts1=[]:=qAq (by rw[nw.here.seg.1,hh.2];rfl)
   have hqn:(s.stack.take s.c.base.toNat++[s.top 0]).length=s.c.base.toNat+1:=by simp;omega
   refine .of h0 ⟨h.good,h.img,?_,h.lay.of rfl rfl rfl rfl (fun r hr=>?_) hv1 (fun c hc=>h.lay.call hc) (fun c hc=>h.lay.try_ hc),?_,h.deep⟩
   ·show Fs A s.all s.calls ⟨(zAV s.all j).tag,s.c.base,s.top 1⟩ ((s.stack.take s.c.base.toNat++[s.top 0]).length:Nat) s.tries
    have:=nw.here.other hh.1 ⟨(zAV s.all j).tag,s.c.base,s.top 1⟩ _ (s.c.base+1) [] rfl htag.1 hfn htag.1 hfo (by show (1:Int)=_;omega) htr ⟨rfl,fun k t x hk=>by simp at hk⟩
    rw[nw.here.app,hts1,hqn]
    rw[show ((s.c.base.toNat+1:Nat):Int)=s.c.base+1 by omega]
    exact this
   ·rcases qAd.1 (show r∈s.stack.take s.c.base.toNat++[s.top 0]from hr)with h1|h1
    ·exact h.lay.stack (qAW h1)
    ·rw[qAO]at h1;rw[h1];exact hv0
   ·show (s.stack.take s.c.base.toNat++[s.top 0]).length<=4000
    have:=h.high
    rw[hqn];omega
  |false =>
   rw[if_neg (by decide)]
   rw[if_neg (by decide)]at e
   split
   ·exact .stop (h.lay.goto _) (by decide) (by decide)
   ·rename_i hd
    have hd2:s.calls.length<1000:=by
     change ¬s.calls.length>=1000 at hd;omega
    have hA:=nw.behind (by rw[e])
    rw[e,if_neg (by rw[hop];decide),if_neg (by rw[hop];decide)]at hA
    dsimp only at hA
    have hqn:(s.stack.take (s.stack.length-2)++[s.top 0]).length=s.stack.length-1:=by simp;omega
    have up:Fs A s.all s.calls ⟨s.c.at_+1,s.c.base,s.c.fun_⟩ ((s.stack.length:Int)-2+1) s.tries :=
     nw.straight (by omega) (by rw[hA];congr 2;omega) (by omega)
    refine .of h0 ⟨h.good,h.img,?_,h.lay.of rfl rfl rfl rfl (fun r hr=>?_) hv1 (fun c hc=>?_) (fun c hc=>h.lay.try_ hc),?_,?_⟩
    ·show Fs A s.all (s.calls++[⟨s.c.at_+1,s.c.base,s.c.fun_⟩]) ⟨(zAV s.all j).tag,(s.stack.length:Int)-2,s.top 1⟩ ((s.stack.take (s.stack.length-2)++[s.top 0]).length:Nat) s.tries
     have hbelow:∀t∈s.tries,t.height<=(s.stack.length:Int)-2:=fun t htm=>by
      rw[nw.here.app]at htm
      rcases qAd.1 htm with h1|h1
      ·have:=nw.here.below t h1;omega
      ·obtain⟨k,hk⟩:=qAu.1 h1
       have hkl:=(qAA.1 hk).1
       obtain⟨x,hx⟩:∃x,v.tries[k]?=some x:=⟨_,qAB (by rw[<-nw.here.seg.1];exact hkl)⟩
       have h5:=(nw.here.seg.2 k t x hk hx).1
       have h6:=nw.here.tr.floor x (qAK hx)
       omega
     have hlast:=Fs.func (ts:=[]) (c:=⟨(zAV s.all j).tag,(s.stack.length:Int)-2,s.top 1⟩) (H:=(s.stack.length:Int)-1) up hbelow (by show 0<=(s.stack.length:Int)-2;omega) htag.1 hfn htag.1 hfo (by show (1:Int)=(s.stack.length:Int)-1-((s.stack.length:Int)-2);omega) htr ⟨rfl,fun k t x hk=>by simp at hk⟩
     rw[qBC]at hlast
     rw[hqn,show ((s.stack.length-1:Nat):Int)=(s.stack.length:Int)-1 by omega]
     exact hlast
    ·rcases qAd.1 (show r∈s.stack.take (s.stack.length-2)++[s.top 0]from hr)with h1|h1
     ·exact h.lay.stack (qAW h1)
     ·rw[qAO]at h1;rw[h1];exact hv0
    ·rcases qAd.1 (show c∈s.calls++[⟨s.c.at_+1,s.c.base,s.c.fun_⟩]from hc)with h1|h1
     ·exact h.lay.call h1
     ·rw[qAO]at h1;rw[h1];exact h.lay.fun_
    ·show (s.stack.take (s.stack.length-2)++[s.top 0]).length<=4000
     have:=h.high
     rw[hqn];omega
    ·show (s.calls++[_]).length<=1000
     simp;omega
theorem zYb(nw:Now con m A s i v ts0 ts1)(h:MOk con m A s)(h0:s.fin=0)(hop:i.op=9):
  Res con m A { s.goto (s.c.at_+1)with stack:=s.stack.take s.c.base.toNat++[s.top 0],c:=(s.calls.getLast?).getD default,calls:=s.calls.dropLast }/\s.calls≠[]/\1<=v.height:=by
 obtain⟨hl,hb0,hf0,hat⟩:=nw.len
 have e:eff con m i v=⟨1,0,decide (v.of>=0)&&v.tries.isEmpty,false,false⟩:=by simp[eff,hop]
 have hf:=nw.floor
 have hh:=nw.holds
 rw[e]at hh hf
 simp only[qAZ,decide_eq_true_eq,List.isEmpty_iff]at hh
 change zA6 v<=v.height-1 at hf
 have hts1:ts1=[]:=qAq (by rw[nw.here.seg.1,hh.2];rfl)
 obtain⟨cs,c',hcs,hb⟩:=nw.here.back hh.1
 have hlen:1<=s.stack.length:=by omega
 have hv0:Val s (s.top 0):=h.lay.stack (zEe (by omega))
 have hqn:(s.stack.take s.c.base.toNat++[s.top 0]).length=s.c.base.toNat+1:=by simp;omega
 refine⟨.of h0 ⟨h.good,h.img,?_,h.lay.of rfl rfl rfl rfl (fun r hr=>?_) ?_ (fun c hc=>h.lay.call (qBZ _ hc)) (fun c hc=>h.lay.try_ hc),?_,?_⟩,by rw[hcs];simp,by omega⟩
 ·show Fs A s.all s.calls.dropLast ((s.calls.getLast?).getD default) ((s.stack.take s.c.base.toNat++[s.top 0]).length:Nat) s.tries
  rw[nw.here.app,hts1,hqn,hcs,show ((s.c.base.toNat+1:Nat):Int)=s.c.base+1 by omega]
  simpa using hb
 ·rcases qAd.1 (show r∈s.stack.take s.c.base.toNat++[s.top 0]from hr)with h1|h1
  ·exact h.lay.stack (qAW h1)
  ·rw[qAO]at h1;rw[h1];exact hv0
 ·show Val s ((s.calls.getLast?).getD default).fun_
  rw[hcs];simp only[List.getLast?_concat,qBV]
  exact h.lay.call (by rw[hcs];simp)
 ·show (s.stack.take s.c.base.toNat++[s.top 0]).length<=4000
  have:=h.high
  rw[hqn];omega
 ·show s.calls.dropLast.length<=1000
  have:=h.deep
  simp;omega
theorem zX6(nw:Now con m A s i v ts0 ts1)(h:MOk con m A s)(h0:s.fin=0)(hop:i.op=17):
  Res con m A { s.goto (s.c.at_+1)with tries:=s.tries++[⟨⟨i.a,s.c.base,s.c.fun_⟩,s.stack.length,s.calls.length⟩] }:=by
 obtain⟨hl,hb0,hf0,hat⟩:=nw.len
 have e:eff con m i v=⟨0,0,true,true,false⟩:=by simp[eff,hop]
 have hA:=nw.behind (by rw[e])
 rw[e,if_neg (by rw[hop];decide),if_pos hop]at hA
 have ht:=nw.try_ hop
 have hh:=nw.here
 refine .of h0 ⟨h.good,h.img,?_,h.lay.of rfl rfl rfl rfl (fun r hr=>h.lay.stack hr) h.lay.fun_ (fun c hc=>h.lay.call hc) (fun c hc=>?_),h.high,h.deep⟩
 ·show Fs A s.all s.calls ⟨s.c.at_+1,s.c.base,s.c.fun_⟩ (s.stack.length:Nat) (s.tries++[⟨⟨i.a,s.c.base,s.c.fun_⟩,s.stack.length,s.calls.length⟩])
  rw[hh.app,qAg]
  refine hh.same ⟨s.c.at_+1,s.c.base,s.c.fun_⟩ _ _ _ rfl rfl (by show 0<=s.c.at_+1;omega) hA rfl rfl (by show v.height-0+0=_;omega) ⟨?_,fun x hx=>?_,by show 0<=v.height-0+0;have:=hh.tr.nn;omega⟩ ⟨?_,fun k t x hk hx=>?_⟩
  ·show (v.tries++[v.height]).Pairwise (·<=·)
   rw[List.pairwise_append]
   exact⟨hh.tr.pw,by simp,fun a ha b hb=>by simp at hb;subst hb;exact(hh.tr.le a ha).2⟩
  ·rcases qAd.1 (show x∈v.tries++[v.height]from hx)with h1|h1
   ·have:=hh.tr.le x h1
    exact⟨this.1,by show x<=v.height-0+0;omega⟩
   ·simp at h1;subst h1
    exact⟨hh.tr.nn,by show v.height<=v.height-0+0;omega⟩
  ·show (ts1++[_]).length=(v.tries++[v.height]).length
   simp[hh.seg.1]
  ·change (v.tries++[v.height])[k]?=some x at hx
   have hkl:=(qAA.1 hk).1
   rw[qAE,qAy]at hkl
   rcases qAR k ts1.length with h1|h1
   ·rw[qAF h1]at hk
    rw[qAF (by rw[<-hh.seg.1];exact h1)]at hx
    obtain⟨b1,b2,b3,b4,b5,b6⟩:=hh.seg.2 k t x hk hx
    refine⟨b1,b2,b3,b4,b5,?_⟩
    rw[b6]
    show some (VS.mk v.of v.has (x+1) (v.tries.take k))=some (VS.mk v.of v.has (x+1) ((v.tries++[v.height]).take k))
    rw[qBA (by rw[<-hh.seg.1];omega)]
   ·have hkk:k=ts1.length:=by omega
    subst hkk
    rw[qAG (qAN _),qBF]at hk
    rw[hh.seg.1,qAG (qAN _),qBF]at hx
    simp at hk hx
    subst hk;subst hx
    refine⟨by show (s.stack.length:Int)=s.c.base+v.height;omega,rfl,rfl,rfl,nw.ins.2.2.1,?_⟩
    show A i.a.toNat=some (VS.mk v.of v.has (v.height+1) ((v.tries++[v.height]).take ts1.length))
    rw[ht,hh.seg.1];simp
 ·rcases qAd.1 (show c∈s.tries++[_]from hc)with h1|h1
  ·exact h.lay.try_ h1
  ·rw[qAO]at h1;rw[h1];exact h.lay.fun_
theorem zSv(nw:Now con m A s i v ts0 ts1)(h:MOk con m A s)(h0:s.fin=0)(hop:i.op=14):
  Res con m A { s.goto (s.c.at_+1)with tries:=s.tries.dropLast }/\s.tries≠[]:=by
 obtain⟨hl,hb0,hf0,hat⟩:=nw.len
 have e:eff con m i v=⟨0,0, !v.tries.isEmpty,true,false⟩:=by simp[eff,hop]
 have hA:=nw.behind (by rw[e])
 rw[e,if_pos hop]at hA
 have hh:=nw.holds
 rw[e]at hh
 have hne:v.tries≠[]:=by simpa[List.isEmpty_iff]using hh
 have hh:=nw.here
 have hne1:ts1≠[]:=fun c=>by have:=hh.seg.1;rw[c]at this;exact hne (qAq this.symm)
 have hdl:s.tries.dropLast=ts0++ts1.dropLast:=by rw[hh.app,List.dropLast_append_of_ne_nil hne1]
 refine⟨.of h0 ⟨h.good,h.img,?_,h.lay.of rfl rfl rfl rfl (fun r hr=>h.lay.stack hr) h.lay.fun_ (fun c hc=>h.lay.call hc) (fun c hc=>h.lay.try_ (qBZ _ hc)),h.high,h.deep⟩,by rw[hh.app];simp[hne1]⟩
 show Fs A s.all s.calls ⟨s.c.at_+1,s.c.base,s.c.fun_⟩ (s.stack.length:Nat) s.tries.dropLast
 rw[hdl]
 refine hh.same ⟨s.c.at_+1,s.c.base,s.c.fun_⟩ _ _ _ rfl rfl (by show 0<=s.c.at_+1;omega) hA rfl rfl (by show v.height-0+0=_;omega) ⟨?_,fun x hx=>?_,by show 0<=v.height-0+0;have:=hh.tr.nn;omega⟩ ⟨?_,fun k t x hk hx=>?_⟩
 ·show v.tries.dropLast.Pairwise (·<=·)
  exact hh.tr.pw.sublist (List.dropLast_sublist _)
 ·have:=hh.tr.le x (qBZ _ hx)
  exact⟨this.1,by show x<=v.height-0+0;omega⟩
 ·show ts1.dropLast.length=v.tries.dropLast.length
  simp[hh.seg.1]
 ·change v.tries.dropLast[k]?=some x at hx
  have hkl:=(qAA.1 hk).1
  rw[qAt]at hkl
  rw[List.getElem?_dropLast,if_pos hkl]at hk
  rw[List.getElem?_dropLast,if_pos (by rw[<-hh.seg.1];exact hkl)]at hx
  obtain⟨b1,b2,b3,b4,b5,b6⟩:=hh.seg.2 k t x hk hx
  refine⟨b1,b2,b3,b4,b5,?_⟩
  rw[b6]
  show some (VS.mk v.of v.has (x+1) (v.tries.take k))=some (VS.mk v.of v.has (x+1) (v.tries.dropLast.take k))
  rw[qBe,List.take_take,qBr (by rw[<-hh.seg.1];omega)]
end
end Go.Vm
namespace Go.Vm
variable {con:List UInt8->Bool}{m:Img}{A:Nat->Option VS}
theorem zUN{k:Int}(h:zIW con m k=true)(hk:0<=k): k<m.pool.length:=by
 unfold zIW at h
 cases hp:m.pool[k.toNat]? with
 |none=>rw[hp]at h;cases h
 |some c=>have:=(qAA.1 hp).1;omega
theorem zNG{α:Type}[Inhabited α]{l:List α}{k:Nat}{x:α}(h:l[k]?=some x): l.getD k default=x:=by rw[qAD,h];rfl
theorem zMs(shw:Int->List UInt8){s:St}(h:MOk con m A s)(h0:s.fin=0): Res con m A (step shw m s):=by
 obtain⟨i,v,ts0,ts1,nw⟩:=h.now
 obtain⟨hl,hb0,hf0,hat⟩:=nw.len
 obtain⟨o0,o20,a0,a1,b0,b1,hgo⟩:=nw.ins
 have hi:=zNG nw.at_
 unfold step
 dsimp only
 rw[hi]
 have hfl:=nw.floor
 have hhd:=nw.holds
 by_cases c0:i.op=0
 ·rw[if_pos c0]
  have e:eff con m i v=⟨1,0, !decide (v.of>=0)&&v.tries.isEmpty,false,false⟩:=by simp[eff,c0]
  rw[e]at hfl
  change zA6 v<=v.height-1 at hfl
  refine⟨h.lay.sub rfl rfl rfl rfl fun _ hr=>h.lay.val hr,fun c=>absurd c (by simp[St.stop]),fun _ c=>?_⟩
  have:s.stack=[]:=c
  rw[this]at hl;simp at hl;omega
 rw[if_neg c0]
 by_cases c1:i.op=1
 ·rw[if_pos c1]
  have e:eff con m i v=⟨0,1,decide (i.a<m.pool.length),true,false⟩:=by simp[eff,c1]
  rw[e]at hhd
  simp only[decide_eq_true_eq]at hhd
  obtain⟨c,hc⟩:∃c,m.pool[i.a.toNat]?=some c:=⟨_,qAB (by omega)⟩
  rw[zNG hc]
  have hth:=h.img.thing c (qAK hc)
  split
  ·rename_i ht
   have:=hth.1 ht
   exact zIs nw h h0 (n:=0) ⟨by simp[zBy],by simp[zBy],by simp[zBy],by simp[zBy],fun _=>⟨rfl,rfl,this⟩,by simp[zBy],⟨by simp[zBy],by simp only[zBy];omega⟩,by simp[zBy]⟩ (by simp[zBy]) (by rw[e];rfl) (by rw[e]) (by rw[e]) (by omega) (by omega)
  ·exact zKm nw h h0 (Val.numR _ _) (by rw[e]) (by rw[e]) (by rw[e]) (by omega) (by omega)
 rw[if_neg c1]
 by_cases c2:i.op=2
 ·rw[if_pos c2]
  have e:eff con m i v=⟨0,1,decide (i.a<v.height),true,false⟩:=by simp[eff,c2]
  rw[e]at hhd
  simp only[decide_eq_true_eq]at hhd
  exact zKm nw h h0 (h.lay.stack (zEe (s:=s) (by omega))) (by rw[e]) (by rw[e]) (by rw[e]) (by omega) (by omega)
 rw[if_neg c2]
 by_cases c3:i.op=3
 ·rw[if_pos c3]
  have e:eff con m i v=⟨0,1,decide (v.of>=0)&&decide (i.a<v.has),true,false⟩:=by simp[eff,c3]
  rw[e]at hhd
  simp only[qAZ,decide_eq_true_eq]at hhd
  rcases nw.here.kind with hk|⟨hk,j,f1,f2,f3,f4,f5⟩
  ·omega
  ·have hj:j∈s.ly:=h.lay.fun_.ly j f1
   rw[zHg]
   show Res con m A ((s.goto (s.c.at_+1)).push ((s.obj s.c.fun_).parts.getD i.a.toNat default))
   have hob:s.obj s.c.fun_=zAV s.all j:=by rw[f1];rfl
   rw[hob]
   refine zKm nw h h0 (h.lay.part hj ?_) (by rw[e]) (by rw[e]) (by rw[e]) (by omega) (by omega)
   rw[qAD,qAB (by omega),qBV]
   exact qA9 _
 rw[if_neg c3]
 by_cases c4:i.op=4
 ·rw[if_pos c4]
  have e:eff con m i v=⟨0,1,decide (v.of>=0),true,false⟩:=by simp[eff,c4]
  exact zKm nw h h0 h.lay.fun_ (by rw[e]) (by rw[e]) (by rw[e]) (by omega) (by omega)
 rw[if_neg c4]
 by_cases c5:i.op=5
 ·rw[if_pos c5]
  have e:eff con m i v=⟨i.a,0,true,true,false⟩:=by simp[eff,c5]
  have hA:=nw.behind (by rw[e])
  rw[e]at hfl hA
  rw[if_neg (by omega),if_neg (by omega)]at hA
  dsimp only at hA hfl
  exact zQw nw h h0 (n:=i.a.toNat) (a:=s.c.at_+1) (by omega) (by omega) (hA.trans (by congr 2;omega)) (by omega)
 rw[if_neg c5]
 by_cases c6:i.op=6
 ·rw[if_pos c6]
  have e:eff con m i v=⟨i.a+1,1,true,true,false⟩:=by simp[eff,c6]
  rw[e]at hfl
  change zA6 v<=v.height-(i.a+1)at hfl
  exact zRJ nw h h0 (n:=i.a.toNat+1) (h.lay.stack (zEe (s:=s) (by omega))) (by rw[e];show i.a+1=_;omega) (by rw[e]) (by rw[e]) (by omega) (by omega) (by omega)
 rw[if_neg c6]
 by_cases c7:i.op=7
 ·rw[if_pos c7];exact zVI nw h h0 false (by rw[c7];rfl)
 rw[if_neg c7]
 by_cases c8:i.op=8
 ·rw[if_pos c8];exact zVI nw h h0 true (by rw[c8];rfl)
 rw[if_neg c8]
 by_cases c9:i.op=9
 ·rw[if_pos c9];exact(zYb nw h h0 c9).1
 rw[if_neg c9]
 by_cases c10:i.op=10
 ·rw[if_pos c10]
  have e:eff con m i v=⟨i.b,1,zIW con m i.a&&decide (i.b<=8),true,false⟩:=by simp[eff,c10]
  rw[e]at hhd hfl
  simp only[qAZ,decide_eq_true_eq]at hhd
  change zA6 v<=v.height-i.b at hfl
  have hp:(s.goto (s.c.at_+1)).partsT i.b.toNat=s.stack.drop (s.stack.length-i.b.toNat):=rfl
  rw[hp]
  have hpl:(s.stack.drop (s.stack.length-i.b.toNat)).length=i.b.toNat:=by simp;omega
  have:=zUN hhd.1 a0
  exact zIs nw h h0 (n:=i.b.toNat) ⟨by simp,fun _=>this,by simp,by simp,by simp,by show (s.stack.drop _).length<=4000;rw[hpl];omega,⟨a0,a1⟩,fun r hr=>(h.lay.stack (qAl hr)).num⟩ (fun r hr=>qAl hr) (by rw[e];show i.b=_;omega) (by rw[e]) (by rw[e]) (by omega) (by omega)
 rw[if_neg c10]
 by_cases c18:i.op=18
 ·rw[if_pos c18]
  have e:eff con m i v=⟨i.b,1,true,true,false⟩:=by simp[eff,c18]
  rw[e]at hfl
  change zA6 v<=v.height-i.b at hfl
  have hp:(s.goto (s.c.at_+1)).partsT i.b.toNat=s.stack.drop (s.stack.length-i.b.toNat):=rfl
  rw[hp]
  have hpl:(s.stack.drop (s.stack.length-i.b.toNat)).length=i.b.toNat:=by simp;omega
  have h4:=h.high
  have hcl:=nw.clos c18
  exact zIs nw h h0 (n:=i.b.toNat) ⟨by simp,by simp,fun _=>by show A i.a.toNat=some ⟨i.a,((s.stack.drop (s.stack.length-i.b.toNat)).length:Nat),1,[]⟩;rw[hpl,hcl];congr 2;omega,by simp,by simp,by show (s.stack.drop _).length<=4000;rw[hpl];omega,⟨a0,a1⟩,fun r hr=>(h.lay.stack (qAl hr)).num⟩ (fun r hr=>qAl hr) (by rw[e];show i.b=_;omega) (by rw[e]) (by rw[e]) (by omega) (by omega)
 rw[if_neg c18]
 by_cases c12:i.op=12
 ·rw[if_pos c12];exact zWY shw nw h h0 c12
 rw[if_neg c12]
 by_cases c17:i.op=17
 ·rw[if_pos c17];exact zX6 nw h h0 c17
 rw[if_neg c17]
 by_cases c14:i.op=14
 ·rw[if_pos c14];exact(zSv nw h h0 c14).1
 rw[if_neg c14]
 by_cases c15:i.op=15
 ·rw[if_pos c15]
  have e:eff con m i v=⟨0,0,true,false,true⟩:=by simp[eff,c15]
  have hA:=nw.there (by rw[e])
  rw[e,if_neg (by omega),if_neg (by omega)]at hA
  exact zJW nw h h0 a0 (hA.trans (by congr 2;show v.height-0+0=v.height;omega))
 rw[if_neg c15]
 rw[zHW]
 by_cases c11:i.op=11
 ·rw[if_pos c11]
  have e:eff con m i v=⟨1,1,decide (i.a<=7),true,false⟩:=by simp[eff,c11]
  rw[e]at hfl
  change zA6 v<=v.height-1 at hfl
  have hv0:Val s (s.top 0):=h.lay.stack (zEe (by omega))
  split
  ·exact .stop (h.lay.goto _) (by decide) (by decide)
  ·rename_i hk
   simp only[qBp,Bool.not_eq_true',decide_eq_true_eq,not_or,Bool.not_eq_false]at hk
   rw[zMz,zHg]at hk
   obtain⟨j,hj1,hj,hkd,hoj,ov⟩:=h.lay.obj hv0 hk.1
   rw[zHg,hoj]
   rw[hoj]at hk
   refine zRJ nw h h0 (n:=1) (h.lay.part hj ?_) (by rw[e];rfl) (by rw[e]) (by rw[e]) (by omega) (by omega) (by omega)
   rw[qAD,qAB (by omega),qBV]
   exact qA9 _
 rw[if_neg c11]
 by_cases c19:i.op=19
 ·rw[if_pos c19]
  have e:eff con m i v=⟨0,0,decide (v.height>=1)&&zIW con m i.b,true,true⟩:=by simp[eff,c19]
  have hA:=nw.behind (by rw[e])
  have hT:=nw.there (by rw[e])
  rw[e,if_neg (by omega),if_neg (by omega)]at hA hT
  split
  ·exact .stop (h.lay.goto _) (by decide) (by decide)
  ·split
   ·exact zJW nw h h0 a0 (hT.trans (by congr 2;show v.height-0+0=v.height;omega))
   ·exact zJW nw h h0 (by omega) (hA.trans (by congr 2;show v.height-0+0=v.height;omega))
 rw[if_neg c19]
 cases s.top 0 with
 |b j=>exact .stop (h.lay.goto _) (by decide) (by decide)
 |n x =>
  dsimp only
  by_cases c13:i.op=13
  ·rw[if_pos c13]
   have e:eff con m i v=⟨1,0,true,false,false⟩:=by simp[eff,c13]
   exact zKk nw h h0 _ (by rw[e];show (1:Int)>=1;decide)
  rw[if_neg c13]
  by_cases c16:i.op=16
  ·rw[if_pos c16]
   have e:eff con m i v=⟨1,0,true,true,true⟩:=by simp[eff,c16]
   have hA:=nw.behind (by rw[e])
   have hT:=nw.there (by rw[e])
   rw[e,if_neg (by omega),if_neg (by omega)]at hA hT
   rw[e]at hfl
   change zA6 v<=v.height-1 at hfl
   split
   ·exact zQw nw h h0 (n:=1) (a:=i.a) a0 (by omega) (hT.trans (by congr 2;show v.height-1+0=v.height-((1:Nat):Int);omega)) (by omega)
   ·exact zQw nw h h0 (n:=1) (a:=s.c.at_+1) (by omega) (by omega) (hA.trans (by congr 2;show v.height-1+0=v.height-((1:Nat):Int);omega)) (by omega)
  rw[if_neg c16]
  have e:eff con m i v=⟨0,0,decide (v.height>=1)&&zKu m i.b,true,true⟩:=by
   unfold eff
   simp only[c0,c1,c2,c3,c4,c5,c6,c7,c8,c9,c10,c11,c12,c13,c14,c15,c16,c17,c18,c19,if_false]
  have hA:=nw.behind (by rw[e])
  have hT:=nw.there (by rw[e])
  rw[e,if_neg (by omega),if_neg (by omega)]at hA hT
  split
  ·exact zJW nw h h0 a0 (hT.trans (by congr 2;show v.height-0+0=v.height;omega))
  ·exact zJW nw h h0 (by omega) (hA.trans (by congr 2;show v.height-0+0=v.height;omega))
theorem MOk.start{w:Int}(hg:Good con m A)(hi:ImgOk m)(hw:0<=w): MOk con m A (start w) where
 good:=hg
 img:=hi
 fr:=.prog rfl (qA6 0) hg.zero rfl rfl ⟨List.Pairwise.nil,by simp,qA6 0⟩ ⟨rfl,fun k t x hk=>by simp[Go.Vm.start]at hk⟩
 lay:={ nodup:=List.nodup_nil,lt:=by simp[Go.Vm.start],roots:=by simp[Go.Vm.start,St.roots],closed:=by simp[Go.Vm.start,Closed],used:=rfl,nums:=by simp[Go.Vm.start,St.roots,zRA,Wn],objs:=by simp[Go.Vm.start],room:=hw,old:=by simp[Go.Vm.start] }
 high:=by simp[Go.Vm.start]
 deep:=by simp[Go.Vm.start]
end Go.Vm
namespace Go.Vm
variable {con:List UInt8->Bool}{m:Img}{A:Nat->Option VS}
def re(s:St)(w u:Int)(l:List Nat): St:={ s with words:=w,used:=u,ly:=l }
def Sm(w:Int)(a b:St): Prop:=a.fin≠5->∃u l,b=re a w u l
theorem Sm.rfl'{w u:Int}{l:List Nat}{a b:St}(h:b=re a w u l): Sm w a b:=fun _=>⟨u,l,h⟩
theorem zCQ{w:Int}{a b a' b':St}{c:Prop}[Decidable c](ha:Sm w a a')(hb:Sm w b b'): Sm w (if c then a else b) (if c then a' else b'):=by split <;> assumption
theorem zOe{s:St}(hl:((live s.all s.roots:Nat):Int)<=s.used)(o:Thing)(n:Nat): (s.gc o.need).alloc o n=if s.words-(live s.all s.roots:Nat)<(o.need:Int)then(s.gc o.need).stop 5 else(s.gc o.need).new o n:=by
 unfold St.alloc St.gc
 split
 ·rfl
 ·rw[if_neg (by omega)]
theorem zOZ{s:St}{w u:Int}{l:List Nat}(h:Lay m A s)(h':Lay m A (re s w u l))(hw:s.words<=w)(o:Thing)(n:Nat): Sm w (s.block o n) ((re s w u l).block o n):=by
 have hl:=zM3 h
 have hl':=zM3 h'
 unfold St.block
 show Sm w (if s.high (1-n)then s.stop 6 else _) (if s.high (1-n)then(re s w u l).stop 6 else _)
 refine zCQ (.rfl' (u:=u) (l:=l) rfl) ?_
 rw[zOe hl,zOe hl']
 show Sm w _ (if w-(live s.all s.roots:Nat)<(o.need:Int)then _ else _)
 split
 ·intro c;exact absurd rfl c
 ·rw[if_neg (by omega)]
  have g:∀(q:St) k,∃u' l',q.gc k=re q q.words u' l':=fun q k=>by
   unfold St.gc;split
   ·exact⟨_,_,rfl⟩
   ·exact⟨q.used,q.ly,rfl⟩
  obtain⟨u1,l1,g1⟩:=g s o.need
  obtain⟨u2,l2,g2⟩:=g (re s w u l) o.need
  rw[g1,g2]
  exact .rfl' (u:=u2+(o.need:Int)) (l:=l2++[s.all.length]) rfl
theorem zKj(s:St)(w u:Int)(l:List Nat)(k:Int): (re s w u l).raise k=re (s.raise k) w u l:=by
 unfold St.raise
 show (match s.tries.getLast? with|none=>_|some t=>_)=_
 cases s.tries.getLast? <;> rfl
theorem zZA(s:St)(w u:Int)(l:List Nat)(b:Bool): (re s w u l).app b=re (s.app b) w u l:=by
 have hob:∀r,(re s w u l).obj r=s.obj r:=fun r=>by cases r <;> rfl
 have hof:∀r k,(re s w u l).of r k=s.of r k:=fun r k=>by cases r <;> rfl
 unfold St.app
 dsimp only
 rw[show (re s w u l).top 1=s.top 1 from rfl,show (re s w u l).top 0=s.top 0 from rfl,hof,hob]
 split
 ·rfl
 ·split
  ·rfl
  ·show (if s.calls.length>=1000 then _ else _)=_
   split <;> rfl
theorem zWt(s:St)(w u:Int)(l:List Nat)(p a b:Int): (re s w u l).ints p a b=re (s.ints p a b) w u l:=by
 unfold St.ints
 repeat' split
 all_goals first|rfl|exact zKj s w u l _
theorem zWV(s:St)(w u:Int)(l:List Nat)(r:Rf): (re s w u l).push r=re (s.push r) w u l:=by
 unfold St.push
 show (if s.high 1 then _ else _)=_
 split <;> rfl
theorem zWX(shw:Int->List UInt8){s:St}{w u:Int}{l:List Nat}(h:Lay m A s)(h':Lay m A (re s w u l))(hw:s.words<=w)(p:Int): Sm w (s.prim shw p) ((re s w u l).prim shw p):=by
 have hob:∀r,(re s w u l).obj r=s.obj r:=fun r=>by cases r <;> rfl
 have hof:∀r k,(re s w u l).of r k=s.of r k:=fun r k=>by cases r <;> rfl
 have ht:∀k,(re s w u l).top k=s.top k:=fun k=>rfl
 have hp:∀k,(re s w u l).partsT k=s.partsT k:=fun k=>rfl
 have hb:=zOZ h h' hw
 have R:∀{a b:St},b=re a w u l->Sm w a b:=fun h=>.rfl' h
 have Q2:∀b,Sm w (s.raise b) ((re s w u l).raise b):=fun b=>by rw[zKj];exact R rfl
 unfold St.prim
 dsimp only
 simp only[ht,hof,hob,hp]
 generalize s.top ((takes p).toNat-1)=a
 generalize s.top 0=b
 refine zCQ ?_ ?_
 ·cases a <;> cases b <;> dsimp only
  all_goals first|exact(R rfl)|(rw[zWt];exact(R rfl))
 refine zCQ (zCQ (R rfl) (zCQ (Q2 _) (hb _ _))) ?_
 refine zCQ (zCQ (R rfl) (R rfl)) (zCQ (zCQ (R rfl) (R rfl)) (zCQ (hb _ _) (zCQ (zCQ (R rfl) (R rfl)) (zCQ ?_ ?_))))
 ·cases a <;> dsimp only
  ·exact R rfl
  ·exact zCQ (R rfl) (R rfl)
 ·cases a <;> dsimp only <;> exact R rfl
theorem zVy(shw:Int->List UInt8){s:St}{w u:Int}{l:List Nat}(h:Lay m A s)(h':Lay m A (re s w u l))(hw:s.words<=w): Sm w (step shw m s) (step shw m (re s w u l)):=by
 unfold step
 dsimp only
 simp only[show (re s w u l).c=s.c from rfl]
 generalize m.code.getD s.c.at_.toNat default=i
 have e:(re s w u l).goto (s.c.at_+1)=re (s.goto (s.c.at_+1)) w u l:=rfl
 rw[e]
 have k:Lay m A (s.goto (s.c.at_+1)):=h.goto _
 have k':Lay m A (re (s.goto (s.c.at_+1)) w u l):=h'.goto _
 have kw:(s.goto (s.c.at_+1)).words<=w:=hw
 generalize s.goto (s.c.at_+1)=q at *
 have hob:∀r,(re q w u l).obj r=q.obj r:=fun r=>by cases r <;> rfl
 have hof:∀r k,(re q w u l).of r k=q.of r k:=fun r k=>by cases r <;> rfl
 have hb:=zOZ k k' kw
 have R:∀{a b:St},b=re a w u l->Sm w a b:=fun h=>.rfl' h
 have P:∀r,Sm w (q.push r) ((re q w u l).push r):=fun r=>by rw[zWV];exact R rfl
 have Q:∀b,Sm w (q.app b) ((re q w u l).app b):=fun b=>by rw[zZA];exact R rfl
 have Q2:∀b,Sm w (q.raise b) ((re q w u l).raise b):=fun b=>by rw[zKj];exact R rfl
 simp only[hob,hof,show ∀k,(re q w u l).top k=q.top k from fun _=>rfl,show ∀k,(re q w u l).partsT k=q.partsT k from fun _=>rfl,show (re q w u l).c=q.c from rfl]
 refine zCQ (R rfl) ?_
 refine zCQ ?_ ?_
 ·exact zCQ (hb _ _) (P _)
 refine zCQ (P _) ?_
 refine zCQ (P _) ?_
 refine zCQ (P _) ?_
 refine zCQ (R rfl) ?_
 refine zCQ (R rfl) ?_
 refine zCQ (Q _) ?_
 refine zCQ (Q _) ?_
 refine zCQ (R rfl) ?_
 refine zCQ (hb _ _) ?_
 refine zCQ (hb _ _) ?_
 refine zCQ (zWX shw k k' kw _) ?_
 refine zCQ (R rfl) ?_
 refine zCQ (R rfl) ?_
 refine zCQ (R rfl) ?_
 refine zCQ (zCQ (R rfl) (R rfl)) (zCQ (zCQ (R rfl) (zCQ (R rfl) (R rfl))) ?_)
 cases q.top 0 <;> dsimp only
 ·exact zCQ (Q2 _) (zCQ (zCQ (R rfl) (R rfl)) (zCQ (R rfl) (R rfl)))
 ·exact R rfl
theorem MOk.more{s:St}(h:MOk con m A s): MOk con m A { s with steps:=s.steps+1 }:=⟨h.good,h.img,h.fr,h.lay.sub rfl rfl rfl rfl fun _ hr=>h.lay.val hr,h.high,h.deep⟩
theorem zQX(shw:Int->List UInt8)(m:Img): ∀(f:Nat) (s:St),s.out <+: (runS shw m f s).out/\s.steps<=(runS shw m f s).steps
 |0,s=>by rw[runS];split <;> exact⟨List.prefix_rfl,qA6 _⟩
 |f+1,s=>by
  rw[runS];split
  ·have hf:=zIf shw m { s with steps:=s.steps+1 }
   have ih:=zQX shw m f (step shw m { s with steps:=s.steps+1 })
   have h5:(step shw m { s with steps:=s.steps+1 }).steps=s.steps+1:=hf.steps
   exact⟨hf.out.trans ih.1,by omega⟩
  ·exact⟨List.prefix_rfl,qA6 _⟩
def O5(s t:St): Prop:=t.out=s.out\/t.fin=s.fin
theorem zCT{s a b:St}{c:Prop}[Decidable c](ha:O5 s a)(hb:O5 s b): O5 s (if c then a else b):=by split <;> assumption
theorem zJe(s:St)(o:Thing)(n:Nat): (s.block o n).out=s.out:=by
 have h:(s.gc o.need).out=s.out:=by unfold St.gc;split <;> rfl
 unfold St.block St.alloc;split
 ·rfl
 ·split
  ·exact h
  ·exact h
theorem zJC(s:St)(k:Int): (s.raise k).out=s.out:=by unfold St.raise;split <;> rfl
theorem zR1(s:St)(b:Bool): (s.app b).out=s.out:=by
 unfold St.app;dsimp only
 repeat' split
 all_goals rfl
theorem zTY(s:St)(r:Rf): (s.push r).out=s.out:=by unfold St.push;split <;> rfl
theorem zT1(s:St)(p a b:Int): (s.ints p a b).out=s.out:=by
 unfold St.ints
 repeat' split
 all_goals first|rfl|exact zJC s _
theorem zWZ(shw:Int->List UInt8)(s:St)(p:Int): O5 s (s.prim shw p):=by
 unfold St.prim;dsimp only
 generalize s.top ((takes p).toNat-1)=a
 generalize s.top 0=b
 have R:∀{t:St},t.out=s.out->O5 s t:=fun h=>.inl h
 refine zCT ?_ (zCT (zCT (R rfl) (zCT (R (zJC s _)) (R (zJe s _ _)))) (zCT (zCT (R rfl) (R rfl)) (zCT (zCT (R rfl) (.inr rfl)) (zCT (R (zJe s _ _)) (zCT (zCT (R rfl) (R rfl)) (zCT ?_ ?_))))))
 ·cases a <;> cases b <;> dsimp only
  all_goals first|exact R rfl|exact R (zT1 s _ _ _)
 ·cases a <;> dsimp only
  ·exact R rfl
  ·exact zCT (R rfl) (R rfl)
 ·cases a <;> dsimp only
  ·exact .inr rfl
  ·exact R rfl
theorem zVz(shw:Int->List UInt8)(m:Img)(s:St): O5 s (step shw m s):=by
 unfold step;dsimp only
 have g:∀{t},O5 (s.goto (s.c.at_+1)) t->O5 s t:=fun h=>h
 refine g ?_
 clear g
 generalize s.goto (s.c.at_+1)=u
 generalize m.code.getD s.c.at_.toNat default=i
 generalize m.pool.getD i.a.toNat default=p1
 generalize m.pool.getD i.b.toNat default=p2
 have R:∀{t:St},t.out=u.out->O5 u t:=fun h=>.inl h
 have P:∀r,O5 u (u.push r):=fun r=>R (zTY u r)
 have B:∀o n,O5 u (u.block o n):=fun o n=>R (zJe u o n)
 refine zCT (R rfl) (zCT (zCT (B _ _) (P _)) (zCT (P _) (zCT (P _) (zCT (P _) (zCT (R rfl) (zCT (R rfl) (zCT (R (zR1 u _)) (zCT (R (zR1 u _)) (zCT (R rfl) (zCT (B _ _) (zCT (B _ _) (zCT (zWZ shw u _) (zCT (R rfl) (zCT (R rfl) (zCT (R rfl) ?_)))))))))))))))
 refine zCT (zCT (R rfl) (R rfl)) (zCT (zCT (R rfl) (zCT (R rfl) (R rfl))) ?_)
 cases u.top 0 <;> dsimp only
 ·exact zCT (R (zJC u _)) (zCT (zCT (R rfl) (R rfl)) (zCT (R rfl) (R rfl)))
 ·exact R rfl
theorem zLY(shw:Int->List UInt8){w:Int}: ∀(f:Nat) (s:St) (u:Int) (l:List Nat),MOk con m A s->MOk con m A (re s w u l)->s.fin=0->s.words<=w->
  ((runS shw m f s).fin≠5->∃u' l',runS shw m f (re s w u l)=re (runS shw m f s) w u' l')/\
  ((runS shw m f s).fin=5->(runS shw m f s).steps<=(runS shw m f (re s w u l)).steps/\(runS shw m f s).out <+: (runS shw m f (re s w u l)).out)
 |0,s,u,l,h,h',h0,hw=>by
  have h0':(re s w u l).fin=0:=h0
  rw[runS,runS,if_pos h0,if_pos h0']
  exact⟨fun _=>⟨u,l,rfl⟩,fun c=>absurd c (by simp[St.stop])⟩
 |f+1,s,u,l,h,h',h0,hw=>by
  have h0':(re s w u l).fin=0:=h0
  rw[zIi shw m f s h0,zIi shw m f _ h0']
  have r1:=zMs shw h.more h0
  have r2:=zMs shw h'.more h0'
  have e:({ re s w u l with steps:=(re s w u l).steps+1 }:St)=re { s with steps:=s.steps+1 } w u l:=rfl
  have hs:=zVy (u:=u) (l:=l) shw h.more.lay (by rw[<-e];exact h'.more.lay) (show ({ s with steps:=s.steps+1 }:St).words<=w from hw)
  rw[e]at r2 ⊢
  have hf:=zIf shw m { s with steps:=s.steps+1 }
  have hf':=zIf shw m (re { s with steps:=s.steps+1 } w u l)
  have h55:=zVz shw m { s with steps:=s.steps+1 }
  generalize step shw m { s with steps:=s.steps+1 }=a at *
  generalize step shw m (re { s with steps:=s.steps+1 } w u l)=b at *
  by_cases h5:a.fin=5
  ·rw[zGq shw m f a (by omega)]
   refine⟨fun c=>absurd h5 c,fun _=>?_⟩
   have ho:=zQX shw m f b
   have e1:a.steps=b.steps:=by rw[hf.steps,hf'.steps];rfl
   refine⟨by have:=ho.2;omega,?_⟩
   have e2:a.out=s.out:=h55.resolve_right (by rw[h5];show ¬(5:Int)=s.fin;omega)
   rw[e2];exact List.IsPrefix.trans hf'.out ho.1
  ·obtain⟨u',l',rfl⟩:=hs h5
   by_cases ha:a.fin=0
   ·have hwa:a.words<=w:=by rw[hf.words];exact hw
    exact zLY shw f a u' l' (r1.ok ha) (r2.ok ha) ha hwa
   ·rw[zGq shw m f a ha,zGq shw m f _ (show (re a w u' l').fin≠0 from ha)]
    exact⟨fun _=>⟨u',l',rfl⟩,fun c=>absurd c h5⟩
end Go.Vm
namespace Go.Vm
def offL(all:List Thing): List Nat->Nat->Nat
 |[],_=>0
 |j::r,i=>if j=i then 0 else(zAV all j).need+offL all r i
def wdN(all:List Thing)(ly:List Nat): Rf->Nat
 | .n v=>((2*v+1)%18446744073709551616).toNat
 | .b i=>2*offL all ly i
def zEf: List UInt8->Nat
 |[]=>0
 |b::r=>b.toNat+256*zEf r
def zFc: Nat->List UInt8->List Nat
 |0,_=>[]
 |k+1,l=>zEf (l.take 8)::zFc k (l.drop 8)
def Thing.size(o:Thing): Nat:=o.need-1
def zCt(o:Thing): Nat:=o.tag.toNat*65536+o.size*8+o.kind.toNat
def zFH(all:List Thing)(ly:List Nat)(o:Thing): List Nat:=if o.kind=4 then zFc o.size o.text else o.parts.map (wdN all ly)
def zC2(all:List Thing)(ly:List Nat)(i:Nat): List Nat:=zCt (zAV all i)::zFH all ly (zAV all i)
def zBs(all:List Thing)(ly:List Nat): List Nat:=ly.flatMap (zC2 all ly)
def begL(all:List Thing)(ly:List Nat)(size:Nat): List Bool:=(ly.flatMap fun i=>true::List.replicate (zAV all i).size false)++List.replicate (size-sumN all ly) false
variable {m:Img}{A:Nat->Option VS}
theorem zF3(o:Thing): 1<=o.need:=by unfold Thing.need;split <;> omega
theorem zDS(o:Thing): o.need=o.size+1:=by have:=zF3 o;unfold Thing.size;omega
theorem zDm: ∀(k:Nat) (l:List UInt8),(zFc k l).length=k
 |0,_=>rfl
 |k+1,l=>by rw[zFc,qAS,zDm k]
theorem zLC{all:List Thing}{ly:List Nat}{o:Thing}: (zFH all ly o).length=o.size:=by
 unfold zFH
 split
 ·exact zDm _ _
 ·rename_i h4
  rw[qAC];unfold Thing.size Thing.need;rw[if_neg h4];omega
theorem zC8(all:List Thing)(ly:List Nat)(i:Nat): (zC2 all ly i).length=(zAV all i).need:=by
 unfold zC2;rw[qAS,zLC,zDS]
theorem zDE(all:List Thing)(i:Nat)(l:List Nat): sumN all (i::l)=(zAV all i).need+sumN all l:=by
 unfold sumN;rw[qAr,List.sum_cons];rfl
theorem zET(all:List Thing)(ly:List Nat): (zBs all ly).length=sumN all ly:=by
 unfold zBs
 suffices ∀l:List Nat,(l.flatMap (zC2 all ly)).length=sumN all l from this ly
 intro l
 induction l with
 |nil=>rfl
 |cons i r ih=>rw[qAb,qAE,ih,zC8,zDE]
theorem zLm{all:List Thing}: ∀{ly:List Nat} {i:Nat},i∈ly->offL all ly i+(zAV all i).need<=sumN all ly
 |j::r,i,h=>by
  rw[offL,zDE]
  by_cases hj:j=i
  ·subst hj;rw[if_pos rfl];omega
  ·rw[if_neg hj]
   have:=zLm (all:=all) (ly:=r) ((qBG.1 h).resolve_left fun e=>hj e.symm)
   omega
theorem zMQ{all:List Thing}{f:Nat->List Nat}(hf:∀i,(f i).length=(zAV all i).need): ∀{ly:List Nat} {i k:Nat},i∈ly->k<(zAV all i).need->(ly.flatMap f)[offL all ly i+k]?=(f i)[k]?
 |j::r,i,k,h,hk=>by
  rw[qAb,offL]
  by_cases hj:j=i
  ·subst hj;rw[if_pos rfl,qAU,qAF (by rw[hf];exact hk)]
  ·rw[if_neg hj,qAG (by rw[hf];omega),hf]
   rw[show (zAV all j).need+offL all r i+k-(zAV all j).need=offL all r i+k by omega]
   exact zMQ hf ((qBG.1 h).resolve_left fun e=>hj e.symm) hk
theorem zJf(all:List Thing)(ly:List Nat){size:Nat}(h:sumN all ly<=size): (begL all ly size).length=size:=by
 unfold begL
 rw[qAE,qAp]
 suffices ∀l:List Nat,(l.flatMap fun i=>true::List.replicate (zAV all i).size false).length=sumN all l by rw[this];omega
 intro l
 induction l with
 |nil=>rfl
 |cons i r ih=>rw[qAb,qAE,ih,zDE,qAS,qAp,zDS]
theorem zJg{all:List Thing}{ly:List Nat}{size i:Nat}(h:i∈ly): (begL all ly size)[offL all ly i]?=some true:=by
 have h1:=at_off' (all:=all) (ly:=ly) (i:=i) h
 unfold begL
 rw[qAF (by
  have:=(qAA.1 h1).1;exact this)]
 exact h1
where
 at_off':∀{all:List Thing} {ly:List Nat} {i:Nat},i∈ly->(ly.flatMap fun i=>true::List.replicate (zAV all i).size false)[offL all ly i]?=some true:=by
  intro all ly
  induction ly with
  |nil=>intro i h;simp at h
  |cons j r ih =>
   intro i h
   rw[qAb,offL]
   by_cases hj:j=i
   ·rw[if_pos hj];rfl
   ·rw[if_neg hj,qAG (by simp[zDS])]
    rw[show (zAV all j).need+offL all r i-(true::List.replicate (zAV all j).size false).length=offL all r i by simp[zDS]]
    exact ih ((qBG.1 h).resolve_left fun e=>hj e.symm)
end Go.Vm
namespace Go.Vm
open Go.Sx
theorem zDl(n:Int): IntKind.u64.wrap n=n%18446744073709551616:=by simp[IntKind.wrap,IntKind.bits,IntKind.signed]
theorem zG5(n:Int): IntKind.i64.wrap n=(n+9223372036854775808)%18446744073709551616-9223372036854775808:=by
 simp[IntKind.wrap,IntKind.bits,IntKind.signed];split <;> omega
abbrev w64(n:Nat): D:=.val (.int .u64 (n:Int))
theorem zI2{x:Int}{n:Nat}(h:x=(n:Int)): D.val (.int .u64 x)=w64 n:=by rw[h]
theorem zXU{a b:Nat}(ha:a<18446744073709551616)(hb:b<18446744073709551616): IntKind.u64.wrap (BitVec.ofInt IntKind.u64.bits (a:Int) &&& BitVec.ofInt IntKind.u64.bits (b:Int)).toNat=((a &&& b:Nat):Int):=by
 have h:(BitVec.ofInt 64 (a:Int) &&& BitVec.ofInt 64 (b:Int)).toNat=a &&& b:=by
  rw[BitVec.toNat_and]
  congr 1
  ·rw[BitVec.toNat_ofInt];omega
  ·rw[BitVec.toNat_ofInt];omega
 have h2:a &&& b<=a:=Nat.and_le_left
 show IntKind.u64.wrap (BitVec.ofInt 64 (a:Int) &&& BitVec.ofInt 64 (b:Int)).toNat=_
 rw[h,zDl];omega
theorem or64{a b:Nat}(ha:a<18446744073709551616)(hb:b<18446744073709551616): IntKind.u64.wrap (BitVec.ofInt IntKind.u64.bits (a:Int) ||| BitVec.ofInt IntKind.u64.bits (b:Int)).toNat=((a ||| b:Nat):Int):=by
 have h:(BitVec.ofInt 64 (a:Int) ||| BitVec.ofInt 64 (b:Int)).toNat=a ||| b:=by
  rw[BitVec.toNat_or]
  congr 1
  ·rw[BitVec.toNat_ofInt];omega
  ·rw[BitVec.toNat_ofInt];omega
 have h2:a ||| b<2 ^ 64:=Nat.or_lt_two_pow ha hb
 show IntKind.u64.wrap (BitVec.ofInt 64 (a:Int) ||| BitVec.ofInt 64 (b:Int)).toNat=_
 rw[h,zDl];omega
theorem zaE(a:Nat): a &&& 1=a%2:=Nat.and_one_is_mod a
theorem zaD(a:Nat): a &&& 7=a%8:=Nat.and_two_pow_sub_one_eq_mod a 3
theorem zZC(a:Nat): a &&& 8191=a%8192:=Nat.and_two_pow_sub_one_eq_mod a 13
theorem or_1(a:Nat): (2*a) ||| 1=2*a+1:=by
 have:=Nat.two_pow_add_eq_or_of_lt (b:=1) (i:=1) (by decide) a
 simpa using this.symm
theorem zNc(all:List Thing)(ly:List Nat)(v:Int): wdN all ly (.n v)%2=1/\wdN all ly (.n v)<18446744073709551616:=by
 simp only[wdN];omega
theorem zVe(all:List Thing)(ly:List Nat)(i:Nat): wdN all ly (.b i)%2=0:=by simp only[wdN];omega
theorem zTm(all:List Thing)(ly:List Nat)(n:Int): (((((Wn n)%18446744073709551616*2)%18446744073709551616).toNat ||| 1:Nat):Int)=(wdN all ly (numR n):Int):=by
 have h:∃k:Nat,((Wn n)%18446744073709551616*2)%18446744073709551616=((2*k:Nat):Int):=⟨(((Wn n)%18446744073709551616*2)%18446744073709551616 / 2).toNat,by omega⟩
 obtain⟨k,hk⟩:=h
 rw[hk,qAj,or_1]
 simp only[wdN,numR]
 omega
theorem zPU(all:List Thing)(ly:List Nat){v:Int}(h:Wn v=v): (((wdN all ly (.n v):Int)+9223372036854775808)%18446744073709551616-9223372036854775808).fdiv 2=v:=by
 unfold Wn at h
 rw[qBY _ (by decide)]
 simp only[wdN]
 omega
structure HeadOk(o:Thing): Prop where
 kind:1<=o.kind/\o.kind<=4
 tag:0<=o.tag/\o.tag<=1048576
 size:o.size<=8191
theorem zRP{o:Thing}(h:HeadOk o): zCt o%8=o.kind.toNat/\zCt o / 65536=o.tag.toNat/\zCt o / 8%8192=o.size/\zCt o<18446744073709551616:=by
 obtain⟨⟨h1,h2⟩,⟨h3,h4⟩,h5⟩:=h
 unfold zCt
 omega
theorem zW0{o:Thing}(h:HeadOk o): (o.tag.toNat*65536 ||| o.size*8) ||| o.kind.toNat=zCt o:=by
 obtain⟨⟨h1,h2⟩,⟨h3,h4⟩,h5⟩:=h
 have e1:o.tag.toNat*65536 ||| o.size*8=o.tag.toNat*65536+o.size*8:=by
  have:=Nat.two_pow_add_eq_or_of_lt (b:=o.size*8) (i:=16) (by omega) o.tag.toNat
  rw[Nat.mul_comm]at this;exact this.symm
 have e2:(o.tag.toNat*65536+o.size*8) ||| o.kind.toNat=zCt o:=by
  have:=Nat.two_pow_add_eq_or_of_lt (b:=o.kind.toNat) (i:=3) (by omega) (o.tag.toNat*8192+o.size)
  rw[show 2 ^ 3*(o.tag.toNat*8192+o.size)=o.tag.toNat*65536+o.size*8 by omega]at this
  exact this.symm
 rw[e1,e2]
end Go.Vm
namespace Go.Vm
theorem zIo{all:List Thing}{m:List Nat}: ∀{l:List Nat} {i:Nat},i∈l->offL all (l++m) i=offL all l i
 |j::r,i,h=>by
  rw[qBk,offL,offL]
  by_cases hj:j=i
  ·rw[if_pos hj,if_pos hj]
  ·rw[if_neg hj,if_neg hj,zIo ((qBG.1 h).resolve_left fun e=>hj e.symm)]
theorem zIn{all:List Thing}: ∀{l:List Nat} {i:Nat},i∉l->offL all (l++[i]) i=sumN all l
 |[],i,_=>by simp[offL,sumN]
 |j::r,i,h=>by
  rw[qBk,offL,zDE,if_neg (fun e=>h (by simp[e])),zIn (fun c=>h (qAm _ c))]
def In(l:List Nat)(r:Rf): Prop:=∀i,r=.b i->i∈l
theorem zVg{all:List Thing}{l m:List Nat}{r:Rf}(h:In l r): wdN all (l++m) r=wdN all l r:=by
 cases r with
 |n v=>rfl
 |b i=>rw[wdN,wdN,zIo (h i rfl)]
theorem zVf{all:List Thing}{l l':List Nat}(hp:l <+: l'){r:Rf}(h:In l r): wdN all l' r=wdN all l r:=by
 obtain⟨m,rfl⟩:=hp;exact zVg h
theorem In.pre{l l':List Nat}(hp:l <+: l'){r:Rf}(h:In l r): In l' r:=fun i e=>hp.subset (h i e)
theorem zLG(l:List Nat)(rs:List Rf){r:Rf}(h:r∈rs): In (addN l rs) r:=fun i e=>(zEv i rs l).2 (.inr (e▸h))
theorem zKx{all:List Thing}{l l':List Nat}(hp:l <+: l'){rs:List Rf}(h:∀r∈rs,In l r): rs.map (wdN all l')=rs.map (wdN all l):=qBU fun r hr=>zVf hp (h r hr)
theorem zIv(l:List Nat)(r:Rf): addN l [r]=match r with
  | .n _=>l
  | .b i=>if i∈l then l else l++[i]:=by
 cases r with
 |n v=>rfl
 |b i =>
  rw[addN]
  by_cases h:i∈l
  ·rw[if_pos h];show l=if i∈l then l else l++[i];rw[if_pos h]
  ·rw[if_neg h];show l++[i]=if i∈l then l else l++[i];rw[if_neg h]
theorem zMT{l:List Nat}{rs:List Rf}{i:Nat}{r:Rf}(h:rs[i]?=some r): addN l (rs.take (i+1))=addN (addN l (rs.take i)) [r]:=by
 rw[qBO,h,Option.toList_some,zIw]
def fwdN(all:List Thing)(ly ord:List Nat)(i:Nat): List Nat:=(if i∈ord then offL all ord i*8 else zCt (zAV all i))::zFH all ly (zAV all i)
def nowM(all:List Thing)(ly ord:List Nat): List Nat:=ly.flatMap (fwdN all ly ord)
theorem zK5(all:List Thing)(ly ord:List Nat)(i:Nat): (fwdN all ly ord i).length=(zAV all i).need:=by
 unfold fwdN;rw[qAS,zLC,zDS]
theorem zN1(all:List Thing)(ly:List Nat): nowM all ly []=zBs all ly:=by
 unfold nowM zBs fwdN zC2;simp
theorem zEs{all:List Thing}{f:Nat->List Nat}(hf:∀i,(f i).length=(zAV all i).need)(l:List Nat): (l.flatMap f).length=sumN all l:=by
 induction l with
 |nil=>rfl
 |cons i r ih=>rw[qAb,qAE,ih,hf,zDE]
theorem zTo(all:List Thing)(ly ord:List Nat): (nowM all ly ord).length=sumN all ly:=zEs (zK5 all ly ord) ly
theorem zRC{all:List Thing}{ly ord:List Nat}{i k:Nat}(h:i∈ly)(hk:k<(zAV all i).need): (nowM all ly ord)[offL all ly i+k]?=(fwdN all ly ord i)[k]?:=zMQ (zK5 all ly ord) h hk
theorem zOL{all:List Thing}{f g:Nat->List Nat}(hf:∀i,(f i).length=(zAV all i).need){x i:Nat}: ∀{l:List Nat},l.Nodup->i∈l->(∀j∈l,j≠i->g j=f j)->g i=(f i).set 0 x->(l.flatMap f).set (offL all l i) x=l.flatMap g
 |j::r,hn,hi,hg,he=>by
  rw[List.nodup_cons]at hn
  rw[qAb,qAb,offL]
  have hpos:0<(f j).length:=by rw[hf];exact zF3 _
  by_cases hj:j=i
  ·subst hj
   rw[if_pos rfl,List.set_append_left _ _ hpos,he]
   congr 1
   have:∀l:List Nat,j∉l->(∀k∈l,k≠j->g k=f k)->l.flatMap f=l.flatMap g:=fun l=>by
    induction l with
    |nil=>intros;rfl
    |cons a t ih =>
     intro h1 h2
     rw[qAb,qAb,h2 a (by simp) (fun e=>h1 (by simp[e])),ih (fun c=>h1 (qAm _ c)) (fun k hk=>h2 k (qAm _ hk))]
   exact this r hn.1 fun k hk=>hg k (qAm _ hk)
  ·have hi':=(qBG.1 hi).resolve_left fun e=>hj e.symm
   rw[if_neg hj,qBN _ _ (by rw[hf];omega),hf,Nat.add_sub_cancel_left,hg j (by simp) hj]
   congr 1
   exact zOL hf hn.2 hi' (fun k hk=>hg k (qAm _ hk)) he
theorem zRB{all:List Thing}{ly ord:List Nat}{i:Nat}(hn:ly.Nodup)(hi:i∈ly)(ho:i∉ord): (nowM all ly ord).set (offL all ly i) (sumN all ord*8)=nowM all ly (ord++[i]):=by
 unfold nowM
 refine zOL (zK5 all ly ord) hn hi (fun j hj hne=>?_) ?_
 ·unfold fwdN
  by_cases h:j∈ord
  ·rw[if_pos (qAo _ h),if_pos h,zIo h]
  ·rw[if_neg h,if_neg (by simp[h,hne])]
 ·unfold fwdN
  rw[if_pos (by simp),if_neg ho,zIn ho];rfl
theorem zGR(all:List Thing)(l m:List Nat): sumN all (l++m)=sumN all l+sumN all m:=by
 unfold sumN;rw[qAk,List.sum_append]
theorem zKd(all:List Thing)(i:Nat): sumN all [i]=(zAV all i).need:=by rw[zDE];simp[sumN]
theorem zRD{all:List Thing}{ly ord:List Nat}{i:Nat}(hn:ord.Nodup)(hs:∀j∈ord,j∈ly)(hi:i∈ly)(ho:i∉ord): sumN all ord+(zAV all i).need<=sumN all ly:=by
 have:=zFO (all:=all) (l:=ord++[i]) (m:=ly) (List.nodup_append.2 ⟨hn,by simp,fun a ha b hb e=>by rw[qAO]at hb;subst hb;subst e;exact ho ha⟩) (fun j hj=>by
  rcases qAd.1 hj with h|h
  ·exact hs j h
  ·rw[qAO]at h;rw[h];exact hi)
 rw[zGR,zKd]at this;exact this
def othM(all:List Thing)(ly ord:List Nat)(k:Nat): List Nat:=(ord.take k).flatMap (zC2 all ord)++(ord.drop k).flatMap (zC2 all ly)
theorem zKt(all:List Thing)(ly ord:List Nat)(k:Nat): (othM all ly ord k).length=sumN all ord:=by
 unfold othM
 rw[qAE,zEs (zC8 all ord),zEs (zC8 all ly),<-zGR,qBT]
theorem zTk(all:List Thing)(ly ord:List Nat): othM all ly ord ord.length=zBs all ord:=by
 unfold othM zBs;simp
theorem zMK{all:List Thing}{l l':List Nat}(hp:l <+: l'){i:Nat}(h:(zAV all i).kind≠4->∀r∈(zAV all i).parts,In l r): zC2 all l' i=zC2 all l i:=by
 unfold zC2 zFH
 split
 ·rfl
 ·rename_i h4;rw[zKx hp (h h4)]
theorem zID{α β:Type}{f g:α->List β}: ∀{l:List α},(∀x∈l,f x=g x)->l.flatMap f=l.flatMap g
 |[],_=>rfl
 |a::r,h=>by rw[qAb,qAb,h a (by simp),zID fun x hx=>h x (qAm _ hx)]
theorem zTj{all:List Thing}{ly ord:List Nat}{k i:Nat}(hk:k<=ord.length)(hc:∀j∈ord.take k,∀r∈(zAV all j).parts,In ord r): othM all ly ord k++zC2 all ly i=othM all ly (ord++[i]) k:=by
 unfold othM
 rw[qBA hk,List.drop_append_of_le_length hk,List.flatMap_append,qAg]
 congr 1
 ·refine zID fun j hj=>?_
  exact(zMK (List.prefix_append _ _) fun _=>hc j hj).symm
 ·simp
structure CS where
 of:Int
 height:Int
 tries:List Int
 deriving DecidableEq
structure CK where
 at_:List (Option CS)
 has:List (Int×Int)
 work:List Int
 bad:Bool
def getI: List (Int×Int)->Int->Int
 |[],_=>0
 |(a,b)::r,k=>if a=k then b else getI r k
def putI: List (Int×Int)->Int->Int->List (Int×Int)
 |[],k,v=>[(k,v)]
 |(a,b)::r,k,v=>if a=k then(a,v)::r else(a,b)::putI r k v
theorem zIq: ∀(L:List (Int×Int)) (k v q:Int),getI (putI L k v) q=if k=q then v else getI L q
 |[],k,v,q=>by rw[putI,getI,getI,getI]
 |(a,b)::r,k,v,q=>by
  rw[putI]
  by_cases h:a=k
  ·subst h
   rw[if_pos rfl,getI,getI]
   by_cases h2:a=q
   ·rw[if_pos h2,if_pos h2]
   ·rw[if_neg h2,if_neg h2,if_neg h2]
  ·rw[if_neg h,getI,getI,zIq r k v q]
   by_cases h2:a=q
   ·rw[if_pos h2,if_pos h2,if_neg (fun e=>h (h2.trans e.symm))]
   ·rw[if_neg h2,if_neg h2]
def CK.come(c:CK)(k:Int)(s:CS): CK:=match c.at_[k.toNat]? with
 |none=>{ c with bad:=true }
 |some none=>{ c with at_:=c.at_.set k.toNat (some s),work:=c.work++[k] }
 |some (some s')=>if s'=s then c else { c with bad:=true }
def CK.begin(c:CK)(k n:Int): CK:=if getI c.has k>0/\getI c.has k≠n+1 then { c with bad:=true }else({ c with has:=putI c.has k (n+1) }:CK).come k ⟨k,1,[]⟩
def CK.stepC(c:CK)(s:CS)(fl takes puts:Int)(holds:Bool)(tw:List Int): CK :=
 if !holds||decide (s.height-takes<fl)then { c with bad:=true }else tw.foldl (fun c t=>c.come t ⟨s.of,s.height-takes+puts,s.tries⟩) c
def fullV(c:CK)(s:CS): VS:=⟨s.of,if s.of = -1 then 0 else getI c.has s.of-1,s.height,s.tries⟩
def CK.doC(con:List UInt8->Bool)(m:Img)(c:CK)(k:Int)(s:CS): CK :=
 let i:=m.code.getD k.toNat default
 let v:=fullV c s
 let e:=eff con m i v
 let fl:=zA6 v
 if i.op=14 then(if s.tries.isEmpty then { c with bad:=true }else c.stepC { s with tries:=s.tries.dropLast } 0 0 0 true [k+1])
 else if i.op=17 then(c.stepC s fl 0 1 true [i.a]).come (k+1) ⟨s.of,s.height,s.tries++[s.height]⟩
 else if i.op=18 then(c.stepC s fl i.b 1 true [k+1]).begin i.a i.b
 else c.stepC s fl e.takes e.puts e.holds ((if e.there then[i.a]else[])++(if e.behind then[k+1]else[]))
structure CInv(m:Img)(c:CK): Prop where
 len:c.at_.length=m.code.length
 of:∀(k:Nat) (s:CS),c.at_[k]?=some (some s)->s.of = -1\/(0<=s.of/\0<getI c.has s.of)
 tr:∀(k:Nat) (s:CS),c.at_[k]?=some (some s)->TrOk (fullV c s)
 has:∀f,getI c.has f≠0->0<=f/\0<getI c.has f
 work:∀k∈c.work,0<=k/\∃s,c.at_[k.toNat]?=some (some s)
structure Ext(c d:CK): Prop where
 len:d.at_.length=c.at_.length
 at_:∀(k:Nat) (s:CS),c.at_[k]?=some (some s)->d.at_[k]?=some (some s)
 has:∀f,getI c.has f≠0->getI d.has f=getI c.has f
 bad:d.bad=false->c.bad=false
 work:∀(k:Nat) (s:CS),d.at_[k]?=some (some s)->(k:Int)∉d.work->c.at_[k]?=some (some s)/\(k:Int)∉c.work
theorem Ext.refl(c:CK): Ext c c:=⟨rfl,fun _ _ h=>h,fun _ _=>rfl,fun h=>h,fun _ _ h h2=>⟨h,h2⟩⟩
theorem Ext.trans{a b c:CK}(h:Ext a b)(k:Ext b c): Ext a c :=
 ⟨k.len.trans h.len,fun q s hq=>k.at_ q s (h.at_ q s hq),fun f hf=>by rw[k.has f (by rw[h.has f hf];exact hf),h.has f hf],fun hb=>h.bad (k.bad hb),fun q s hq hw=>by obtain⟨h1,h2⟩:=k.work q s hq hw;exact h.work q s h1 h2⟩
theorem zDY{c d:CK}(h:Ext c d){s:CS}(hs:s.of = -1\/(0<=s.of/\0<getI c.has s.of)): fullV d s=fullV c s:=by
 unfold fullV
 by_cases h1:s.of = -1
 ·rw[if_pos h1,if_pos h1]
 ·rw[if_neg h1,if_neg h1,h.has s.of (by rcases hs with h2|h2;exact absurd h2 h1;omega)]
theorem zHs{m:Img}{c:CK}(hc:CInv m c){k:Int}{s:CS}(hk:0<=k)(hs:s.of = -1\/(0<=s.of/\0<getI c.has s.of))(ht:TrOk (fullV c s)):
  Ext c (c.come k s)/\CInv m (c.come k s)/\((c.come k s).bad=false->(c.come k s).at_[k.toNat]?=some (some s)):=by
 unfold CK.come
 cases h:c.at_[k.toNat]? with
 |none=>exact⟨⟨rfl,fun _ _ h=>h,fun _ _=>rfl,(fun c=>by cases c),fun _ _ h h2=>⟨h,h2⟩⟩,⟨hc.len,hc.of,hc.tr,hc.has,hc.work⟩,fun c=>by cases c⟩
 |some o =>
  have hl:=(qAA.1 h).1
  cases o with
  |none =>
   have hne:∀(q:Nat) (x:CS),c.at_[q]?=some (some x)->q≠k.toNat:=fun q x hq e=>by rw[e,h]at hq;cases hq
   have hat:∀(q:Nat),(c.at_.set k.toNat (some s))[q]?=if k.toNat=q then some (some s)else c.at_[q]?:=fun q=>by
    rw[qAT]
    by_cases e:k.toNat=q
    ·rw[if_pos e,if_pos e,if_pos hl]
    ·rw[if_neg e,if_neg e]
   refine⟨⟨by simp,fun q x hq=>by show (c.at_.set k.toNat (some s))[q]?=_;rw[hat,if_neg (Ne.symm (hne q x hq))];exact hq,fun _ _=>rfl,fun h=>h,fun q x hq hw=>?_⟩,⟨by simp[hc.len],fun q x hq=>?_,fun q x hq=>?_,hc.has,fun q hq=>?_⟩,fun _=>by show (c.at_.set k.toNat (some s))[k.toNat]?=_;rw[hat,if_pos rfl]⟩
   ·change (c.at_.set k.toNat (some s))[q]?=some (some x)at hq
    rw[hat]at hq
    by_cases e:k.toNat=q
    ·exact absurd (qBS c.work (by rw[<-e];simp;omega)) hw
    ·rw[if_neg e]at hq;exact⟨hq,fun c=>hw (qAo _ c)⟩
   ·change (c.at_.set k.toNat (some s))[q]?=some (some x)at hq
    rw[hat]at hq
    split at hq
    ·injection hq with hq;injection hq with hq;subst hq;exact hs
    ·exact hc.of q x hq
   ·change (c.at_.set k.toNat (some s))[q]?=some (some x)at hq
    rw[hat]at hq
    split at hq
    ·injection hq with hq;injection hq with hq;subst hq;exact ht
    ·exact hc.tr q x hq
   ·rcases qAd.1 (show q∈c.work++[k]from hq)with h1|h1
    ·obtain⟨h2,x,h3⟩:=hc.work q h1
     exact⟨h2,x,by show (c.at_.set k.toNat (some s))[q.toNat]?=_;rw[hat,if_neg (Ne.symm (hne _ x h3))];exact h3⟩
    ·rw[qAO]at h1;subst h1
     exact⟨hk,s,by show (c.at_.set q.toNat (some s))[q.toNat]?=_;rw[hat,if_pos rfl]⟩
  |some x =>
   dsimp only
   by_cases e:x=s
   ·subst e;rw[if_pos rfl];exact⟨.refl c,hc,fun _=>h⟩
   ·rw[if_neg e]
    exact⟨⟨rfl,fun _ _ h=>h,fun _ _=>rfl,(fun c=>by cases c),fun _ _ h h2=>⟨h,h2⟩⟩,⟨hc.len,hc.of,hc.tr,hc.has,hc.work⟩,fun c=>by cases c⟩
theorem zRq{m:Img}{c:CK}(hc:CInv m c){k n:Int}(hk:0<=k)(hn:0<=n):
  Ext c (c.begin k n)/\CInv m (c.begin k n)/\((c.begin k n).bad=false->(c.begin k n).at_[k.toNat]?=some (some ⟨k,1,[]⟩)/\getI (c.begin k n).has k=n+1):=by
 unfold CK.begin
 split
 ·exact⟨⟨rfl,fun _ _ h=>h,fun _ _=>rfl,(fun c=>by cases c),fun _ _ h h2=>⟨h,h2⟩⟩,⟨hc.len,hc.of,hc.tr,hc.has,hc.work⟩,fun c=>by cases c⟩
 ·rename_i hb
  have hgp:∀q,getI (putI c.has k (n+1)) q=if k=q then n+1 else getI c.has q:=zIq c.has k (n+1)
  have hkeep:∀f,getI c.has f≠0->getI (putI c.has k (n+1)) f=getI c.has f:=fun f hf=>by
   rw[hgp]
   split
   ·rename_i e;subst e
    have:=hc.has k hf
    have:¬(getI c.has k>0/\getI c.has k≠n+1):=hb
    omega
   ·rfl
  have e1:Ext c { c with has:=putI c.has k (n+1) }:=⟨rfl,fun _ _ h=>h,hkeep,fun h=>h,fun _ _ h h2=>⟨h,h2⟩⟩
  have c1:CInv m { c with has:=putI c.has k (n+1) }:=by
   refine⟨hc.len,fun q x hq=>?_,fun q x hq=>?_,fun f hf=>?_,hc.work⟩
   ·rcases hc.of q x hq with h|h
    ·exact .inl h
    ·exact .inr ⟨h.1,by show 0<getI (putI c.has k (n+1)) x.of;rw[hkeep x.of (by omega)];exact h.2⟩
   ·rw[zDY e1 (hc.of q x hq)];exact hc.tr q x hq
   ·change getI (putI c.has k (n+1)) f≠0 at hf
    show 0<=f/\0<getI (putI c.has k (n+1)) f
    rw[hgp]at hf ⊢
    split
    ·rename_i e;subst e;exact⟨hk,by omega⟩
    ·rename_i e;rw[if_neg e]at hf;exact hc.has f hf
  have h0:getI ({ c with has:=putI c.has k (n+1) }:CK).has k=n+1:=by show getI (putI c.has k (n+1)) k=_;rw[hgp,if_pos rfl]
  obtain⟨h1,h2,h3⟩:=zHs c1 (k:=k) (s:=⟨k,1,[]⟩) hk (.inr ⟨hk,by rw[h0];omega⟩) ⟨List.Pairwise.nil,by simp[fullV],by show (0:Int)<=1;decide⟩
  exact⟨e1.trans h1,h2,fun hbad=>⟨h3 hbad,by rw[h1.has k (by rw[h0];omega),h0]⟩⟩
theorem zJb{m:Img}{s:CS}: ∀(tw:List Int) {c:CK},CInv m c->(∀t∈tw,0<=t)->(s.of = -1\/(0<=s.of/\0<getI c.has s.of))->TrOk (fullV c s)->
  Ext c (tw.foldl (fun c t=>c.come t s) c)/\CInv m (tw.foldl (fun c t=>c.come t s) c)/\((tw.foldl (fun c t=>c.come t s) c).bad=false->∀t∈tw,(tw.foldl (fun c t=>c.come t s) c).at_[t.toNat]?=some (some s))
 |[],c,hc,_,_,_=>⟨.refl c,hc,fun _ t ht=>by simp at ht⟩
 |t::r,c,hc,h0,hs,ht=>by
  obtain⟨h1,h2,h3⟩:=zHs hc (h0 t (by simp)) hs ht
  have hs':s.of = -1\/(0<=s.of/\0<getI (c.come t s).has s.of):=hs.imp_right fun h=>⟨h.1,by rw[h1.has s.of (by omega)];exact h.2⟩
  obtain⟨k1,k2,k3⟩:=zJb r h2 (fun x hx=>h0 x (qAm _ hx)) hs' (by rw[zDY h1 hs];exact ht)
  refine⟨h1.trans k1,k2,fun hb x hx=>?_⟩
  rcases qBG.1 hx with rfl|hx
  ·exact k1.at_ _ _ (h3 (k1.bad hb))
  ·exact k3 hb x hx
variable {con:List UInt8->Bool}{m:Img}{A:Nat->Option VS}
theorem zF0{c:CK}(hc:CInv m c){s:CS}{fl takes puts:Int}{holds:Bool}{tw:List Int}(h0:∀t∈tw,0<=t)(hs:s.of = -1\/(0<=s.of/\0<getI c.has s.of))(ht:TrOk (fullV c s))(hf:zA6 (fullV c s)<=fl\/zA6 (fullV c s)<=s.height-takes)(hp:0<=puts):
  Ext c (c.stepC s fl takes puts holds tw)/\CInv m (c.stepC s fl takes puts holds tw)/\((c.stepC s fl takes puts holds tw).bad=false->holds=true/\fl<=s.height-takes/\∀t∈tw,(c.stepC s fl takes puts holds tw).at_[t.toNat]?=some (some ⟨s.of,s.height-takes+puts,s.tries⟩)):=by
 unfold CK.stepC
 split
 ·exact⟨⟨rfl,fun _ _ h=>h,fun _ _=>rfl,(fun c=>by cases c),fun _ _ h h2=>⟨h,h2⟩⟩,⟨hc.len,hc.of,hc.tr,hc.has,hc.work⟩,fun c=>by cases c⟩
 ·rename_i hh
  simp only[qBp,Bool.not_eq_true',decide_eq_true_eq,not_or]at hh
  have hfl:fl<=s.height-takes:=by omega
  have htr:TrOk (fullV c ⟨s.of,s.height-takes+puts,s.tries⟩):=ht.tw (h:=s.height-takes+puts) (by rcases hf with h|h <;> omega)
  obtain⟨h1,h2,h3⟩:=zJb (s:=⟨s.of,s.height-takes+puts,s.tries⟩) tw hc h0 hs htr
  exact⟨h1,h2,fun hb=>⟨by simpa using hh.1,hfl,h3 hb⟩⟩
theorem zU7{a b:Eff}{c:Prop}[Decidable c](ha:0<=a.puts)(hb:0<=b.puts): 0<=(if c then a else b).puts:=by split <;> assumption
theorem zIO{c:CK}(hc:CInv m c){k:Int}{x:CS}(h:c.at_[k.toNat]?=some (some x)): k.toNat<m.code.length:=by
 have:=(qAA.1 h).1;rw[hc.len]at this;exact this
theorem zZv(him:ImgOk m){c:CK}(hc:CInv m c){k:Int}{s:CS}(hk:0<=k)(hat:c.at_[k.toNat]?=some (some s)):
  Ext c (c.doC con m k s)/\CInv m (c.doC con m k s)/\((c.doC con m k s).bad=false->∃l,zKw con m k.toNat (fullV c s)=some l/\∀p∈l,0<=p.1/\∃x,(c.doC con m k s).at_[p.1.toNat]?=some (some x)/\fullV (c.doC con m k s) x=p.2):=by
 have hs:=hc.of _ _ hat
 have ht:=hc.tr _ _ hat
 have hlt:=zIO hc hat
 obtain⟨i,hi⟩:∃i,m.code[k.toNat]?=some i:=⟨_,qAB hlt⟩
 have hg:m.code.getD k.toNat default=i:=by rw[qAD,hi];rfl
 obtain⟨o0,o20,a0,a1,b0,b1,hgo⟩:=him.ins i (qAK hi)
 have hv:(fullV c s).height=s.height/\(fullV c s).tries=s.tries/\(fullV c s).of=s.of:=⟨rfl,rfl,rfl⟩
 have hfloor:zA6 (fullV c s)<=s.height:=by
  cases hq:s.tries.getLast? with
  |none =>have:zA6 (fullV c s)=0:=by unfold zA6;rw[hv.2.1,hq];rfl
          have:=ht.nn;omega
  |some x=>rw[zD5 (v:=fullV c s) (h:=x) hq];exact(ht.le x (qBP hq)).2
 have hk1:(k+1).toNat=k.toNat+1:=by omega
 unfold CK.doC zKw
 dsimp only
 rw[hg]
 by_cases c14:i.op=14
 ·rw[if_pos c14]
  have e:eff con m i (fullV c s)=⟨0,0, !s.tries.isEmpty,true,false⟩:=by simp[eff,c14,fullV]
  rw[e]
  split
  ·exact⟨⟨rfl,fun _ _ h=>h,fun _ _=>rfl,(fun c=>by cases c),fun _ _ h h2=>⟨h,h2⟩⟩,⟨hc.len,hc.of,hc.tr,hc.has,hc.work⟩,fun c=>by cases c⟩
  ·rename_i hne
   have ht':TrOk (fullV c { s with tries:=s.tries.dropLast }):=⟨ht.pw.sublist (List.dropLast_sublist _),fun x hx=>ht.le x (qBZ _ hx),ht.nn⟩
   have hf':zA6 (fullV c { s with tries:=s.tries.dropLast })<=s.height-0:=by
    cases hq:s.tries.dropLast.getLast? with
    |none =>have:zA6 (fullV c { s with tries:=s.tries.dropLast })=0:=by unfold zA6;show (s.tries.dropLast.getLast?).getD 0=0;rw[hq];rfl
            have:=ht.nn;omega
    |some x=>rw[zD5 (v:=fullV c { s with tries:=s.tries.dropLast }) (h:=x) hq];have:=(ht'.le x (qBP hq)).2;show x<=s.height-0;change x<=s.height at this;omega
   obtain⟨h1,h2,h3⟩:=zF0 (holds:=true) (fl:=0) (takes:=0) (puts:=0) (tw:=[k+1]) hc (s:={ s with tries:=s.tries.dropLast }) (by intro t ht;simp at ht;omega) hs ht' (.inr hf') (qA6 0)
   refine⟨h1,h2,fun hb=>?_⟩
   obtain⟨_,_,h4⟩:=h3 hb
   have h5:=h4 (k+1) (by simp)
   have hl1:=zIO h2 h5
   rw[if_neg (by simp[hne];exact⟨by rw[hv.1];omega,by omega⟩)]
   refine⟨_,rfl,fun p hp=>?_⟩
   dsimp only at hp
   rw[if_neg (show ¬i.op=17 by omega),if_neg (show ¬i.op=18 by omega),if_pos (show true=true from rfl),if_neg (show ¬false=true by decide)]at hp
   simp only[qBq,qBC,qAO]at hp
   subst hp
   refine⟨by show (0:Int)<=(k.toNat:Int)+1;omega,_,by rw[show ((k.toNat:Int)+1).toNat=(k+1).toNat by omega];exact h5,?_⟩
   rw[zDY h1 (s:=⟨s.of,s.height-0+0,s.tries.dropLast⟩) hs]
   rfl
 rw[if_neg c14]
 by_cases c17:i.op=17
 ·rw[if_pos c17]
  have e:eff con m i (fullV c s)=⟨0,0,true,true,false⟩:=by simp[eff,c17]
  rw[e]
  obtain⟨h1,h2,h3⟩:=zF0 (holds:=true) (fl:=zA6 (fullV c s)) (takes:=0) (puts:=1) (tw:=[i.a]) hc (s:=s) (by intro t ht;simp at ht;omega) hs ht (.inl (qA6 _)) (by decide)
  have hs':s.of = -1\/(0<=s.of/\0<getI (c.stepC s (zA6 (fullV c s)) 0 1 true [i.a]).has s.of):=hs.imp_right fun h=>⟨h.1,by rw[h1.has s.of (by omega)];exact h.2⟩
  have ht':TrOk (fullV (c.stepC s (zA6 (fullV c s)) 0 1 true [i.a]) ⟨s.of,s.height,s.tries++[s.height]⟩):=⟨by
    show (s.tries++[s.height]).Pairwise (·<=·)
    rw[List.pairwise_append]
    exact⟨ht.pw,by simp,fun a ha b hb=>by simp at hb;subst hb;exact(ht.le a ha).2⟩,fun x hx=>by
    rcases qAd.1 (show x∈s.tries++[s.height]from hx)with h|h
    ·exact ht.le x h
    ·simp at h;subst h;exact⟨ht.nn,qA6 _⟩,ht.nn⟩
  obtain⟨g1,g2,g3⟩:=zHs h2 (k:=k+1) (s:=⟨s.of,s.height,s.tries++[s.height]⟩) (by omega) hs' ht'
  refine⟨h1.trans g1,g2,fun hb=>?_⟩
  obtain⟨_,_,h4⟩:=h3 (g1.bad hb)
  have h5:=g1.at_ _ _ (h4 i.a (by simp))
  have h6:=g3 hb
  have hl1:=zIO g2 h6
  rw[if_neg (by simp;exact⟨by rw[hv.1];omega,by omega⟩)]
  refine⟨_,rfl,fun p hp=>?_⟩
  dsimp only at hp
  rw[if_pos c17,if_neg (show ¬i.op=18 by omega),if_pos (show true=true from rfl),if_neg (show ¬false=true by decide),if_neg (show ¬i.op=14 by omega),if_pos c17]at hp
  simp only[qBC,qAd,qAO]at hp
  rcases hp with rfl|rfl
  ·refine⟨a0,_,h5,?_⟩
   rw[zDY (h1.trans g1) (s:=⟨s.of,s.height-0+1,s.tries⟩) hs]
   show VS.mk _ _ _ _=VS.mk _ _ _ _
   congr 1;show s.height-0+1=s.height+1;omega
  ·refine⟨by show (0:Int)<=(k.toNat:Int)+1;omega,_,by rw[show ((k.toNat:Int)+1).toNat=(k+1).toNat by omega];exact h6,?_⟩
   rw[zDY (h1.trans g1) (s:=⟨s.of,s.height,s.tries++[s.height]⟩) hs]
   show VS.mk _ _ _ _=VS.mk _ _ _ _
   congr 1;show s.height=s.height-0+0;omega
 rw[if_neg c17]
 by_cases c18:i.op=18
 ·rw[if_pos c18]
  have e:eff con m i (fullV c s)=⟨i.b,1,true,true,false⟩:=by simp[eff,c18]
  rw[e]
  obtain⟨h1,h2,h3⟩:=zF0 (holds:=true) (fl:=zA6 (fullV c s)) (takes:=i.b) (puts:=1) (tw:=[k+1]) hc (s:=s) (by intro t ht;simp at ht;omega) hs ht (.inl (qA6 _)) (by decide)
  obtain⟨g1,g2,g3⟩:=zRq h2 (k:=i.a) (n:=i.b) a0 b0
  refine⟨h1.trans g1,g2,fun hb=>?_⟩
  obtain⟨_,h7,h4⟩:=h3 (g1.bad hb)
  have h5:=g1.at_ _ _ (h4 (k+1) (by simp))
  obtain⟨h6,h8⟩:=g3 hb
  have hl1:=zIO g2 h5
  rw[if_neg (by simp;exact⟨by rw[hv.1];omega,by omega⟩)]
  refine⟨_,rfl,fun p hp=>?_⟩
  dsimp only at hp
  rw[if_neg (show ¬i.op=17 by omega),if_pos c18,if_pos (show true=true from rfl),if_neg (show ¬false=true by decide),if_neg (show ¬i.op=14 by omega),if_neg (show ¬i.op=17 by omega)]at hp
  simp only[qBq,qBC,qAd,qAO]at hp
  rcases hp with rfl|rfl
  ·refine⟨a0,_,h6,?_⟩
   show VS.mk i.a (if i.a = -1 then 0 else getI ((c.stepC s (zA6 (fullV c s)) i.b 1 true [k+1]).begin i.a i.b).has i.a-1) 1 []=VS.mk i.a i.b 1 []
   rw[if_neg (by omega),h8]
   show VS.mk _ _ _ _=VS.mk _ _ _ _
   congr 1;omega
  ·refine⟨by show (0:Int)<=(k.toNat:Int)+1;omega,_,by rw[show ((k.toNat:Int)+1).toNat=(k+1).toNat by omega];exact h5,?_⟩
   rw[zDY (h1.trans g1) (s:=⟨s.of,s.height-i.b+1,s.tries⟩) hs]
   rfl
 rw[if_neg c18]
 have hpu:0<=(eff con m i (fullV c s)).puts:=by
  unfold eff;dsimp only
  repeat' (with_reducible refine zU7 ?_ ?_)
  all_goals first|exact qA6 0|exact(show (0:Int)<=1 by decide)
 generalize eff con m i (fullV c s)=e at *
 have hto:∀t∈((if e.there then[i.a]else[])++(if e.behind then[k+1]else[]):List Int),0<=t:=fun t ht=>by
  rcases qAd.1 ht with h|h <;> split at h <;> simp at h <;> omega
 obtain⟨h1,h2,h3⟩:=zF0 (holds:=e.holds) (fl:=zA6 (fullV c s)) (takes:=e.takes) (puts:=e.puts) hc (s:=s) hto hs ht (.inl (qA6 _)) hpu
 refine⟨h1,h2,fun hb=>?_⟩
 obtain⟨h5,h6,h7⟩:=h3 hb
 have hbl:e.behind=true->k.toNat+1<m.code.length:=fun hbe=>by
  have:=zIO h2 (h7 (k+1) (by rw[hbe];simp));omega
 rw[if_neg (by
  simp only[h5,Bool.not_true,qBs,qBp,decide_eq_true_eq,qAZ,not_or]
  exact⟨by rw[hv.1];omega,fun ⟨x,y⟩=>by have:=hbl x;omega⟩)]
 refine⟨_,rfl,fun p hp=>?_⟩
 rw[if_neg c17,if_neg c18,if_neg c14,if_neg c17]at hp
 simp only[qBq,qAd]at hp
 have hfin:∀t:Int,t∈((if e.there then[i.a]else[])++(if e.behind then[k+1]else[]):List Int)->∃x,(c.stepC s (zA6 (fullV c s)) e.takes e.puts e.holds ((if e.there then[i.a]else[])++(if e.behind then[k+1]else[]))).at_[t.toNat]?=some (some x)/\fullV (c.stepC s (zA6 (fullV c s)) e.takes e.puts e.holds ((if e.there then[i.a]else[])++(if e.behind then[k+1]else[]))) x = { fullV c s with height:=(fullV c s).height-e.takes+e.puts }:=fun t ht=>by
  refine⟨_,h7 t ht,?_⟩
  rw[zDY h1 (s:=⟨s.of,s.height-e.takes+e.puts,s.tries⟩) hs]
  rfl
 rcases hp with hp|hp
 ·split at hp
  ·rename_i hbe
   rw[qAO]at hp;subst hp
   obtain⟨x,x1,x2⟩:=hfin (k+1) (by rw[hbe];simp)
   exact⟨by show (0:Int)<=(k.toNat:Int)+1;omega,x,by rw[show ((k.toNat:Int)+1).toNat=(k+1).toNat by omega];exact x1,x2⟩
  ·simp at hp
 ·split at hp
  ·rename_i hbe
   rw[qAO]at hp;subst hp
   obtain⟨x,x1,x2⟩:=hfin i.a (by rw[hbe];simp)
   exact⟨a0,x,x1,x2⟩
  ·simp at hp
end Go.Vm
namespace Go.Vm
variable {con:List UInt8->Bool}{m:Img}{A:Nat->Option VS}
structure Ag(A:Nat->Option VS)(c:CK): Prop where
 at_:∀(k:Nat) (s:CS),c.at_[k]?=some (some s)->A k=some (fullV c s)
 has:∀f,getI c.has f≠0->A f.toNat=some ⟨f,getI c.has f-1,1,[]⟩
 nb:c.bad=false
theorem zRZ{c:CK}{x s:CS}(h:fullV c x=fullV c s): x=s:=by
 obtain⟨x1,x2,x3⟩:=x
 obtain⟨s1,s2,s3⟩:=s
 simp only[fullV,VS.mk.injEq]at h
 obtain⟨h1,_,h3,h4⟩:=h
 subst h1;subst h3;subst h4;rfl
theorem zLB(hg:Good con m A){c:CK}(hc:CInv m c)(ha:Ag A c){k:Int}{s:CS}(hA:A k.toNat=some (fullV c s)): Ag A (c.come k s):=by
 have hl:=(hg.some_ _ _ hA).1
 unfold CK.come
 cases h:c.at_[k.toNat]? with
 |none=>rw[qBa,hc.len]at h;omega
 |some o =>
  cases o with
  |none =>
   refine⟨fun q x hq=>?_,ha.has,ha.nb⟩
   change (c.at_.set k.toNat (some s))[q]?=some (some x)at hq
   rw[qAT]at hq
   split at hq
   ·rename_i e
    split at hq
    ·injection hq with hq;injection hq with hq;subst hq;rw[<-e];exact hA
    ·cases hq
   ·exact ha.at_ q x hq
  |some x =>
   dsimp only
   have h1:=ha.at_ _ _ h
   rw[hA]at h1
   injection h1 with h1
   rw[if_pos (zRZ h1.symm)]
   exact ha
theorem zUU(hg:Good con m A){c:CK}(hc:CInv m c)(ha:Ag A c){k n:Int}(hk:0<=k)(hn:0<=n)(hA:A k.toNat=some ⟨k,n,1,[]⟩): Ag A (c.begin k n):=by
 unfold CK.begin
 have hno:¬(getI c.has k>0/\getI c.has k≠n+1):=fun ⟨h1,h2⟩=>by
  have:=ha.has k (by omega)
  rw[hA]at this
  injection this with this
  simp only[VS.mk.injEq,true_and,and_true]at this
  omega
 rw[if_neg hno]
 have hgp:∀q,getI (putI c.has k (n+1)) q=if k=q then n+1 else getI c.has q:=zIq c.has k (n+1)
 have hsame:∀x:CS,(x.of = -1\/(0<=x.of/\0<getI c.has x.of))->fullV { c with has:=putI c.has k (n+1) } x=fullV c x:=fun x hx=>by
  unfold fullV
  by_cases h1:x.of = -1
  ·rw[if_pos h1,if_pos h1]
  ·rw[if_neg h1,if_neg h1]
   show VS.mk _ (getI (putI c.has k (n+1)) x.of-1) _ _=_
   rw[hgp]
   split
   ·rename_i e
    rcases hx with hx|hx
    ·exact absurd hx h1
    ·rw[<-e]at hx ⊢
     have:¬(getI c.has k>0/\getI c.has k≠n+1):=hno
     congr 1;omega
   ·rfl
 have c1:CInv m { c with has:=putI c.has k (n+1) }:=by
  refine⟨hc.len,fun q x hq=>?_,fun q x hq=>?_,fun f hf=>?_,hc.work⟩
  ·refine(hc.of q x hq).imp_right fun h=>⟨h.1,?_⟩
   show 0<getI (putI c.has k (n+1)) x.of
   rw[hgp];split
   ·omega
   ·exact h.2
  ·rw[hsame x (hc.of q x hq)];exact hc.tr q x hq
  ·change getI (putI c.has k (n+1)) f≠0 at hf
   show 0<=f/\0<getI (putI c.has k (n+1)) f
   rw[hgp]at hf ⊢
   split
   ·rename_i e;subst e;exact⟨hk,by omega⟩
   ·rename_i e;rw[if_neg e]at hf;exact hc.has f hf
 refine zLB hg c1 ⟨fun q x hq=>?_,fun f hf=>?_,ha.nb⟩ ?_
 ·rw[hsame x (hc.of q x hq)];exact ha.at_ q x hq
 ·change getI (putI c.has k (n+1)) f≠0 at hf
  show A f.toNat=some ⟨f,getI (putI c.has k (n+1)) f-1,1,[]⟩
  rw[hgp]at hf ⊢
  split
  ·rename_i e;subst e;rw[hA];congr 2;omega
  ·rename_i e;rw[if_neg e]at hf;exact ha.has f hf
 ·rw[hA]
  show some (VS.mk k n 1 [])=some (VS.mk k (if k = -1 then 0 else getI (putI c.has k (n+1)) k-1) 1 [])
  rw[if_neg (by omega),hgp,if_pos rfl]
  congr 2;omega
theorem zOQ(hg:Good con m A){s:CS}: ∀(tw:List Int) {c:CK},CInv m c->Ag A c->(∀t∈tw,0<=t)->(s.of = -1\/(0<=s.of/\0<getI c.has s.of))->TrOk (fullV c s)->(∀t∈tw,A t.toNat=some (fullV c s))->Ag A (tw.foldl (fun c t=>c.come t s) c)
 |[],_,_,ha,_,_,_,_=>ha
 |t::r,c,hc,ha,h0,hs,ht,hA=>by
  obtain⟨h1,h2,h3⟩:=zHs hc (h0 t (by simp)) hs ht
  have hf:=zDY h1 hs
  refine zOQ hg r h2 (zLB hg hc ha (hA t (by simp))) (fun x hx=>h0 x (qAm _ hx)) (hs.imp_right fun h=>⟨h.1,by rw[h1.has s.of (by omega)];exact h.2⟩) (by rw[hf];exact ht) (fun x hx=>by rw[hf];exact hA x (qAm _ hx))
theorem zIh(hg:Good con m A){c:CK}(hc:CInv m c)(ha:Ag A c){s:CS}{fl takes puts:Int}{holds:Bool}{tw:List Int}(h0:∀t∈tw,0<=t)(hs:s.of = -1\/(0<=s.of/\0<getI c.has s.of))(ht:TrOk (fullV c s))(hf:zA6 (fullV c s)<=s.height-takes)(hp:0<=puts)(hh:holds=true)(hfl:fl<=s.height-takes)
  (hA:∀t∈tw,A t.toNat=some { fullV c s with height:=s.height-takes+puts }):Ag A (c.stepC s fl takes puts holds tw):=by
 unfold CK.stepC
 rw[if_neg (by rw[hh];simp;omega)]
 exact zOQ (s:=⟨s.of,s.height-takes+puts,s.tries⟩) hg tw hc ha h0 hs (ht.tw (h:=s.height-takes+puts) (by omega)) (fun t ht=>by rw[hA t ht];rfl)
theorem zZy(hg:Good con m A)(him:ImgOk m){c:CK}(hc:CInv m c)(ha:Ag A c){k:Int}{s:CS}(hk:0<=k)(hat:c.at_[k.toNat]?=some (some s)): Ag A (c.doC con m k s):=by
 have hs:=hc.of _ _ hat
 have ht:=hc.tr _ _ hat
 have hlt:=zIO hc hat
 obtain⟨i,hi⟩:∃i,m.code[k.toNat]?=some i:=⟨_,qAB hlt⟩
 have hgi:m.code.getD k.toNat default=i:=by rw[qAD,hi];rfl
 obtain⟨o0,o20,a0,a1,b0,b1,hgo⟩:=him.ins i (qAK hi)
 obtain⟨_,l,hl,hall⟩:=hg.some_ _ _ (ha.at_ _ _ hat)
 unfold zKw at hl
 dsimp only at hl
 rw[hgi]at hl
 split at hl
 ·cases hl
 rename_i hcnd
 injection hl with hl
 simp only[qBp,Bool.not_eq_true',decide_eq_true_eq,qAZ,not_or,Bool.not_eq_false]at hcnd
 obtain⟨⟨hhold,hfl⟩,hbh⟩:=hcnd
 change ¬s.height-(eff con m i (fullV c s)).takes<zA6 (fullV c s)at hfl
 have mB:(eff con m i (fullV c s)).behind=true->A (k+1).toNat=some { fullV c s with height:=s.height-(eff con m i (fullV c s)).takes+(eff con m i (fullV c s)).puts,tries:=if i.op=14 then s.tries.dropLast else if i.op=17 then s.tries++[s.height]else s.tries }:=fun hb=>by
  have:=(hall ((k.toNat:Int)+1,_) (by rw[<-hl,hb,if_pos rfl];exact qAo _ (qBS _ (qAO.2 rfl)))).2
  rw[show ((k.toNat:Int)+1).toNat=(k+1).toNat by omega]at this
  exact this
 have mT:(eff con m i (fullV c s)).there=true->A i.a.toNat=some { fullV c s with height:=s.height-(eff con m i (fullV c s)).takes+(eff con m i (fullV c s)).puts,tries:=if i.op=14 then s.tries.dropLast else if i.op=17 then s.tries++[s.height]else s.tries }:=fun hb =>
  (hall (i.a,_) (by rw[<-hl,hb,if_pos rfl];exact qBS _ (qAO.2 rfl))).2
 have m17:i.op=17->A i.a.toNat=some { fullV c s with height:=s.height+1 }:=fun hb =>
  (hall (i.a,_) (by rw[<-hl,if_pos hb];exact qAo _ (qAo _ (qAo _ (qAO.2 rfl))))).2
 have m18:i.op=18->A i.a.toNat=some ⟨i.a,i.b,1,[]⟩:=fun hb =>
  (hall (i.a,_) (by rw[<-hl,if_pos hb];exact qAo _ (qAo _ (qBS _ (qAO.2 rfl))))).2
 clear hall hl
 unfold CK.doC
 dsimp only
 rw[hgi]
 by_cases c14:i.op=14
 ·rw[if_pos c14]
  have e:eff con m i (fullV c s)=⟨0,0, !s.tries.isEmpty,true,false⟩:=by simp[eff,c14,fullV]
  rw[e]at hhold mB hfl
  have hB:=mB rfl
  rw[if_pos c14]at hB
  rw[if_neg (by simpa using hhold)]
  have ht':TrOk (fullV c { s with tries:=s.tries.dropLast }):=⟨ht.pw.sublist (List.dropLast_sublist _),fun x hx=>ht.le x (qBZ _ hx),ht.nn⟩
  have hnn:0<=s.height:=ht.nn
  have hf':zA6 (fullV c { s with tries:=s.tries.dropLast })<=s.height-0:=by
   cases hq:s.tries.dropLast.getLast? with
   |none =>have:zA6 (fullV c { s with tries:=s.tries.dropLast })=0:=by unfold zA6;show (s.tries.dropLast.getLast?).getD 0=0;rw[hq];rfl
           omega
   |some x=>rw[zD5 (v:=fullV c { s with tries:=s.tries.dropLast }) (h:=x) hq];have:=(ht'.le x (qBP hq)).2;show x<=s.height-0;change x<=s.height at this;omega
  exact zIh (s:={ s with tries:=s.tries.dropLast }) hg hc ha (by intro t ht;simp at ht;omega) hs ht' hf' (qA6 0) rfl (by show (0:Int)<=s.height-0;omega) (fun t ht=>by rw[qAO]at ht;subst ht;rw[hB];rfl)
 rw[if_neg c14]
 by_cases c17:i.op=17
 ·rw[if_pos c17]
  have e:eff con m i (fullV c s)=⟨0,0,true,true,false⟩:=by simp[eff,c17]
  rw[e]at mB hfl
  change ¬s.height-0<zA6 (fullV c s)at hfl
  have hB:=mB rfl
  rw[if_neg c14,if_pos c17]at hB
  have a1:=zIh (s:=s) (fl:=zA6 (fullV c s)) (takes:=0) (puts:=1) (holds:=true) (tw:=[i.a]) hg hc ha (by intro t ht;simp at ht;omega) hs ht (by omega) (by decide) rfl (by omega) (fun t ht=>by rw[qAO]at ht;subst ht;rw[m17 c17];simp)
  obtain⟨h1,h2,_⟩:=zF0 (holds:=true) (fl:=zA6 (fullV c s)) (takes:=0) (puts:=1) (tw:=[i.a]) hc (s:=s) (by intro t ht;simp at ht;omega) hs ht (.inl (qA6 _)) (by decide)
  refine zLB hg h2 a1 ?_
  rw[zDY h1 (s:=⟨s.of,s.height,s.tries++[s.height]⟩) hs,hB]
  simp[fullV]
 rw[if_neg c17]
 by_cases c18:i.op=18
 ·rw[if_pos c18]
  have e:eff con m i (fullV c s)=⟨i.b,1,true,true,false⟩:=by simp[eff,c18]
  rw[e]at mB hfl
  change ¬s.height-i.b<zA6 (fullV c s)at hfl
  have hB:=mB rfl
  rw[if_neg c14,if_neg c17]at hB
  have a2:=zIh (s:=s) (fl:=zA6 (fullV c s)) (takes:=i.b) (puts:=1) (holds:=true) (tw:=[k+1]) hg hc ha (by intro t ht;simp at ht;omega) hs ht (by omega) (by decide) rfl (by omega) (fun t ht=>by rw[qAO]at ht;subst ht;rw[hB];rfl)
  obtain⟨h1,h2,_⟩:=zF0 (holds:=true) (fl:=zA6 (fullV c s)) (takes:=i.b) (puts:=1) (tw:=[k+1]) hc (s:=s) (by intro t ht;simp at ht;omega) hs ht (.inl (qA6 _)) (by decide)
  exact zUU hg h2 a2 a0 b0 (m18 c18)
 rw[if_neg c18]
 have hpu:0<=(eff con m i (fullV c s)).puts:=by
  unfold eff;dsimp only
  repeat' (with_reducible refine zU7 ?_ ?_)
  all_goals first|exact qA6 0|exact(show (0:Int)<=1 by decide)
 generalize eff con m i (fullV c s)=e at *
 rw[if_neg c14,if_neg c17]at mB mT
 refine zIh hg hc ha (fun t ht=>?_) hs ht (by omega) hpu (by simpa using hhold) (by omega) (fun t ht=>?_)
 ·rcases qAd.1 ht with h|h <;> split at h <;> simp at h <;> omega
 ·rcases qAd.1 ht with h|h
  ·split at h
   ·rename_i hb;rw[qAO]at h;subst h;exact mT hb
   ·simp at h
  ·split at h
   ·rename_i hb;rw[qAO]at h;subst h;exact mB hb
   ·simp at h
def Seen(con:List UInt8->Bool)(m:Img)(c:CK): Prop:=∀(k:Nat) (s:CS),c.at_[k]?=some (some s)->(k:Int)∉c.work->∃l,zKw con m k (fullV c s)=some l/\∀p∈l,0<=p.1/\∃x,c.at_[p.1.toNat]?=some (some x)/\fullV c x=p.2
theorem Seen.good{c:CK}(hc:CInv m c)(hs:Seen con m c)(hw:c.work=[])(h0:c.at_[0]?=some (some ⟨-1,0,[]⟩)): zP6 con m:=by
 refine⟨fun k=>(c.at_[k]?).bind fun o=>o.map (fullV c),?_,fun k v hv=>?_⟩
 ·show ((c.at_[0]?).bind fun o=>o.map (fullV c))=_
  rw[h0];rfl
 ·change ((c.at_[k]?).bind fun o=>o.map (fullV c))=some v at hv
  cases ho:c.at_[k]? with
  |none=>rw[ho]at hv;cases hv
  |some o =>
   cases o with
   |none=>rw[ho]at hv;cases hv
   |some s =>
    rw[ho]at hv
    injection hv with hv
    subst hv
    obtain⟨l,h1,h2⟩:=hs k s ho (by rw[hw];simp)
    refine⟨by have:=(qAA.1 ho).1;rw[<-hc.len];exact this,l,h1,fun p hp=>?_⟩
    obtain⟨q1,x,q2,q3⟩:=h2 p hp
    refine⟨q1,?_⟩
    show ((c.at_[p.1.toNat]?).bind fun o=>o.map (fullV c))=some p.2
    rw[q2,<-q3];rfl
theorem zPA(him:ImgOk m){c:CK}{k:Int}{w:List Int}(hc:CInv m c)(hs:Seen con m c)(hw:c.work=w++[k])(_hb:c.bad=false):
  ∃s,c.at_[k.toNat]?=some (some s)/\0<=k/\CInv m { c with work:=w }/\
   let d:=({ c with work:=w }:CK).doC con m k s
   CInv m d/\Ext { c with work:=w } d/\(d.bad=false->Seen con m d):=by
 obtain⟨hk,s,hat⟩:=hc.work k (by rw[hw];simp)
 have c1:CInv m { c with work:=w }:=⟨hc.len,hc.of,hc.tr,hc.has,fun q hq=>hc.work q (by rw[hw];exact qAo _ hq)⟩
 obtain⟨h1,h2,h3⟩:=zZv (con:=con) him c1 hk hat
 refine⟨s,hat,hk,c1,h2,h1,fun hbad q x hq hqw=>?_⟩
 obtain⟨g1,g2⟩:=h1.work q x hq hqw
 have hfx:fullV (({ c with work:=w }:CK).doC con m k s) x=fullV c x:=zDY (c:={ c with work:=w }) h1 (hc.of q x g1)
 by_cases hqk:(q:Int)=k
 ·have:q=k.toNat:=by omega
  subst this
  change c.at_[k.toNat]?=some (some x)at g1
  rw[hat]at g1;injection g1 with g1;injection g1 with g1;subst g1
  rw[hfx]
  exact h3 hbad
 ·rw[hfx]
  obtain⟨l,l1,l2⟩:=hs q x g1 (by
   rw[hw];intro hm
   rcases qAd.1 hm with h|h
   ·exact g2 h
   ·rw[qAO]at h;exact hqk h)
  refine⟨l,l1,fun p hp=>?_⟩
  obtain⟨p1,y,p2,p3⟩:=l2 p hp
  refine⟨p1,y,h1.at_ _ _ p2,?_⟩
  have:fullV (({ c with work:=w }:CK).doC con m k s) y=fullV c y:=zDY (c:={ c with work:=w }) h1 (hc.of _ y p2)
  rw[this];exact p3
end Go.Vm
namespace Go.Proofs.YtcagoomibpcdlaaGreatDoor
open _root_.Go.Proofs.Tryz
open Go.Sx Go.Vm Go.RowKit
theorem zCd: zA2 prog 22=some 3:=by kernel_rfl
theorem zDz: (zBe prog 22).isSome=true:=by kernel_rfl
theorem zEp: zBe prog 22=some 43:=by kernel_rfl
theorem zKY: zCk prog 22=some 32:=by kernel_rfl
theorem zAv: zBF prog 22=some (false,1):=by kernel_rfl
theorem zBh: zA2 prog 23=some 3:=by kernel_rfl
theorem zEd: (zBe prog 23).isSome=true:=by kernel_rfl
theorem zGj: zBe prog 23=some 46:=by kernel_rfl
theorem zVq: zCk prog 23=some 24:=by kernel_rfl
theorem zBo: zBF prog 23=some (false,1):=by kernel_rfl
theorem zCM: zA1 prog 25 0=some 0:=by kernel_rfl
theorem zBD: zA1 prog 25 1=some 1:=by kernel_rfl
theorem zCo: zBF prog 25=some (true,2):=by kernel_rfl
theorem zE5: zB6 prog 25=some [.slice none 0 0,.slice none 0 0]:=by kernel_rfl
theorem zH0: zC0 prog 25=some [(0,1),(1,1)]:=by kernel_rfl
theorem zCa: zA1 prog 32 0=some 0:=by kernel_rfl
theorem zFi: zA1 prog 32 1=some 1:=by kernel_rfl
theorem zLK: zA1 prog 32 2=some 2:=by kernel_rfl
theorem zGO: zA1 prog 32 3=some 3:=by kernel_rfl
theorem zE7: zA1 prog 32 4=some 4:=by kernel_rfl
theorem zCE: zBF prog 32=some (true,5):=by kernel_rfl
theorem zD8: zB6 prog 32=some [.int .i64 0,.slice none 0 0,.int .i64 0,.slice none 0 0,.int .i64 0]:=by kernel_rfl
theorem zMk: zC0 prog 32=some [(0,1),(1,1),(2,1),(3,1),(4,1)]:=by kernel_rfl
theorem zCZ: zA1 prog 43 0=some 0:=by kernel_rfl
theorem zDD: zA1 prog 43 1=some 1:=by kernel_rfl
theorem zCp: zA1 prog 43 2=some 2:=by kernel_rfl
theorem zDy: zBF prog 43=some (true,3):=by kernel_rfl
theorem zKX: zDQ prog 43=some 3:=by kernel_rfl
theorem zI3: zB6 prog 43=some [.bool false,.int .i64 0,.string ByteArray.empty]:=by kernel_rfl
theorem zVp: zC0 prog 43=some [(0,1),(1,1),(2,1)]:=by kernel_rfl
theorem zBA: zA1 prog 46 0=some 0:=by kernel_rfl
theorem zAp: zA1 prog 46 1=some 1:=by kernel_rfl
theorem zCY: zA1 prog 46 2=some 2:=by kernel_rfl
theorem zA3: zBF prog 46=some (true,3):=by kernel_rfl
theorem zVo: zDQ prog 46=some 3:=by kernel_rfl
theorem zBw: zB6 prog 46=some [.int .i64 0,.int .i64 0,.int .i64 0]:=by kernel_rfl
theorem zGN: zC0 prog 46=some [(0,1),(1,1),(2,1)]:=by kernel_rfl
theorem zBn: zBF prog 52=some (false,1):=by kernel_rfl
theorem zCh: zBF prog 55=some (false,1):=by kernel_rfl
theorem zBQ: zA2 prog 56=some 1:=by kernel_rfl
theorem zCq: (zBe prog 56).isSome=true:=by kernel_rfl
theorem zCS: zBe prog 56=some 58:=by kernel_rfl
theorem zD0: zCk prog 56=some 8:=by kernel_rfl
theorem zBC: zBF prog 56=some (false,1):=by kernel_rfl
theorem zBO: zBF prog 58=some (false,1):=by kernel_rfl
theorem zE6: zDQ prog 58=some 1:=by kernel_rfl
theorem zGM: (zB6 prog 58).isSome=true:=by kernel_rfl
theorem zAe: zA1 prog 60 0=some 0:=by kernel_rfl
theorem zH1: zA1 prog 60 1=some 1:=by kernel_rfl
theorem zC7: zA1 prog 60 2=some 2:=by kernel_rfl
theorem zCO: zBF prog 60=some (true,3):=by kernel_rfl
theorem zSk: zDQ prog 60=some 3:=by kernel_rfl
theorem zSe: (zB6 prog 60).isSome=true:=by kernel_rfl
theorem zSi: zB6 prog 60=some [.int .i64 0,.int .i64 0,.int .u64 0]:=by kernel_rfl
theorem zES: zA2 prog 61=some 3:=by kernel_rfl
theorem zGl: (zBe prog 61).isSome=true:=by kernel_rfl
theorem zLN: zBe prog 61=some 60:=by kernel_rfl
theorem zSr: zCk prog 61=some 24:=by kernel_rfl
theorem zB7: zBF prog 61=some (false,1):=by kernel_rfl
theorem zD9: zA2 prog 62=some 5:=by kernel_rfl
theorem zGk: (zBe prog 62).isSome=true:=by kernel_rfl
theorem zLM: zBe prog 62=some 114:=by kernel_rfl
theorem zSq: zCk prog 62=some 40:=by kernel_rfl
theorem zB4: zBF prog 62=some (false,1):=by kernel_rfl
theorem zA8: zA1 prog 64 0=some 0:=by kernel_rfl
theorem zBS: zA1 prog 64 1=some 2:=by kernel_rfl
theorem zCn: zA1 prog 64 2=some 3:=by kernel_rfl
theorem zAZ: zA1 prog 64 3=some 4:=by kernel_rfl
theorem zDf: zA1 prog 64 4=some 7:=by kernel_rfl
theorem zC6: zA1 prog 64 5=some 8:=by kernel_rfl
theorem zB1: zA1 prog 64 6=some 9:=by kernel_rfl
theorem zSh: zB6 prog 64=some [.slice none 0 0,.slice none 0 0,.pointer none,.slice none 0 0,.int .i64 0,.int .i64 0,.int .u64 0,.slice none 0 0,.slice none 0 0,.int .i64 0,.slice none 0 0,.int .i64 0,.slice none 0 0,.int .i64 0]:=by kernel_rfl
theorem zSo: zC0 prog 64=some [(0,2),(2,1),(3,1),(4,3),(7,1),(8,1),(9,5)]:=by kernel_rfl
theorem zIc: zA2 prog 93=some 4:=by kernel_rfl
theorem zP5: zBe prog 93=some 151:=by kernel_rfl
theorem zSp: zCk prog 93=some 48:=by kernel_rfl
theorem zER: zBF prog 93=some (false,1):=by kernel_rfl
theorem zGm: zA2 prog 96=some 1:=by kernel_rfl
theorem zLL: zBe prog 96=some 4:=by kernel_rfl
theorem zNd: zCk prog 96=some 1:=by kernel_rfl
theorem zIb: zBF prog 96=some (false,1):=by kernel_rfl
theorem zCv: zA1 prog 98 0=some 0:=by kernel_rfl
theorem zD2: zA1 prog 98 1=some 1:=by kernel_rfl
theorem zJ7: zA1 prog 98 2=some 2:=by kernel_rfl
theorem zGi: zA1 prog 98 3=some 3:=by kernel_rfl
theorem zSg: zB6 prog 98=some [.slice none 0 0,.slice none 0 0,.int .i64 0,.slice none 0 0]:=by kernel_rfl
theorem zSn: zC0 prog 98=some [(0,1),(1,1),(2,1),(3,1)]:=by kernel_rfl
theorem zFl: zA1 prog 114 0=some 0:=by kernel_rfl
theorem zO1: zA1 prog 114 1=some 3:=by kernel_rfl
theorem zO0: zA1 prog 114 2=some 4:=by kernel_rfl
theorem zCR: zBF prog 114=some (true,5):=by kernel_rfl
theorem zSj: zDQ prog 114=some 5:=by kernel_rfl
theorem zSd: (zB6 prog 114).isSome=true:=by kernel_rfl
theorem zIa: zB6 prog 114=some [.int .i64 0,.int .i64 0,.int .u64 0,.int .i64 0,.int .i64 0]:=by kernel_rfl
theorem zSm: zC0 prog 114=some [(0,3),(3,1),(4,1)]:=by kernel_rfl
theorem zC5: zA1 prog 151 0=some 0:=by kernel_rfl
theorem zB0: zA1 prog 151 1=some 1:=by kernel_rfl
theorem zBm: zA1 prog 151 2=some 2:=by kernel_rfl
theorem zFk: zA1 prog 151 3=some 3:=by kernel_rfl
theorem zEo: zBF prog 151=some (true,4):=by kernel_rfl
theorem zEn: zB6 prog 151=some [.int .i64 0,.int .i64 0,.slice none 0 0,.bool false]:=by kernel_rfl
theorem zGh: zC0 prog 151=some [(0,1),(1,1),(2,1),(3,1)]:=by kernel_rfl
theorem zAu: zBF prog 145=some (false,1):=by kernel_rfl
theorem zDJ: zA1 prog 148 0=some 0:=by kernel_rfl
theorem zEy: zA1 prog 148 1=some 2:=by kernel_rfl
theorem zEI: zA1 prog 148 2=some 3:=by kernel_rfl
theorem zFj: zA1 prog 148 3=some 4:=by kernel_rfl
theorem zC4: zA1 prog 148 4=some 5:=by kernel_rfl
theorem zSf: zB6 prog 148=some [.slice none 0 0,.slice none 0 0,.slice none 0 0,.map none,.slice none 0 0,.bool false]:=by kernel_rfl
theorem zSl: zC0 prog 148=some [(0,2),(2,1),(3,1),(4,1),(5,1)]:=by kernel_rfl
theorem zAd: zBF prog 44=some (false,1):=by kernel_rfl
theorem zCr: zBF prog 28=some (false,1):=by kernel_rfl
theorem zA0: zBF prog 146=some (false,1):=by kernel_rfl
theorem zFe: zAN prog 8=true:=by kernel_rfl
theorem zIL: zAN prog 9=true:=by kernel_rfl
theorem zDG: zAN prog 10=true:=by kernel_rfl
theorem zFD: zAN prog 11=true:=by kernel_rfl
theorem zK1: zAN prog 13=true:=by kernel_rfl
theorem zJy: zAN prog 16=true:=by kernel_rfl
theorem zL2: zAN prog 17=true:=by kernel_rfl
theorem zDv: zAN prog 18=true:=by kernel_rfl
theorem zHM: zAN prog 19=true:=by kernel_rfl
theorem zGA: zAN prog 20=true:=by kernel_rfl
theorem zDK: zAN prog 21=true:=by kernel_rfl
theorem zPV: zAN prog 22=true:=by kernel_rfl
theorem zFp: zAN prog 23=true:=by kernel_rfl
theorem zAr: zAN prog 24=true:=by kernel_rfl
theorem zFd: zAN prog 32=true:=by kernel_rfl
theorem zK0: zAN prog 33=true:=by kernel_rfl
theorem zJz: zAN prog 34=true:=by kernel_rfl
theorem zG8: zAN prog 35=true:=by kernel_rfl
theorem zJR: zAN prog 36=true:=by kernel_rfl
theorem zPX: zAN prog 38=true:=by kernel_rfl
theorem zCg: zAN prog 39=true:=by kernel_rfl
theorem zEF: zAN prog 40=true:=by kernel_rfl
theorem zE2: zAN prog 41=true:=by kernel_rfl
theorem zGx: zAN prog 42=true:=by kernel_rfl
theorem zD4: zAN prog 43=true:=by kernel_rfl
theorem zJT: zAN prog 44=true:=by kernel_rfl
theorem zPY: zAN prog 45=true:=by kernel_rfl
theorem zHL: zAN prog 46=true:=by kernel_rfl
theorem zNB: zAN prog 47=true:=by kernel_rfl
theorem zPW: zAN prog 48=true:=by kernel_rfl
theorem zCN: zAN prog 49=true:=by kernel_rfl
theorem zHK: zAN prog 50=true:=by kernel_rfl
theorem zIB: zAN prog 51=true:=by kernel_rfl
theorem zCP: zAN prog 52=true:=by kernel_rfl
theorem zCi: zAN prog 53=true:=by kernel_rfl
theorem zDg: zAN prog 54=true:=by kernel_rfl
theorem zEP: zAN prog 55=true:=by kernel_rfl
theorem zJ0: zAN prog 68=true:=by kernel_rfl
theorem zF9: zAN prog 69=true:=by kernel_rfl
theorem zFf: zAN prog 70=true:=by kernel_rfl
theorem zK2: zAN prog 71=true:=by kernel_rfl
theorem zL4: zAN prog 72=true:=by kernel_rfl
theorem zFr: zAN prog 73=true:=by kernel_rfl
theorem zT9: zAN prog 74=true:=by kernel_rfl
theorem zKI: zAN prog 75=true:=by kernel_rfl
theorem zGy: zAN prog 76=true:=by kernel_rfl
theorem zEZ: zAN prog 77=true:=by kernel_rfl
theorem zNE: zAN prog 78=true:=by kernel_rfl
theorem zEN: zAN prog 79=true:=by kernel_rfl
theorem zLz: zAN prog 80=true:=by kernel_rfl
theorem zEX: zAN prog 81=true:=by kernel_rfl
theorem zLy: zAN prog 83=true:=by kernel_rfl
theorem zLx: zAN prog 85=true:=by kernel_rfl
theorem zLw: zAN prog 87=true:=by kernel_rfl
theorem zJS: zAN prog 88=true:=by kernel_rfl
theorem zLv: zAN prog 90=true:=by kernel_rfl
theorem zLu: zAN prog 92=true:=by kernel_rfl
theorem zL0: zAN prog 93=true:=by kernel_rfl
theorem zLt: zAN prog 94=true:=by kernel_rfl
theorem zNA: zAN prog 95=true:=by kernel_rfl
theorem zF7: zAN prog 97=true:=by kernel_rfl
theorem zGB: zAN prog 98=true:=by kernel_rfl
theorem zEY: zAN prog 99=true:=by kernel_rfl
theorem zGH: zAN prog 113=true:=by kernel_rfl
theorem zDB: zAN prog 114=true:=by kernel_rfl
theorem zJ2: zAN prog 115=true:=by kernel_rfl
theorem zND: zAN prog 116=true:=by kernel_rfl
theorem zJ1: zAN prog 117=true:=by kernel_rfl
theorem zEz: zAN prog 118=true:=by kernel_rfl
theorem zJx: zAN prog 119=true:=by kernel_rfl
theorem zAo: zAN prog 120=true:=by kernel_rfl
theorem zFq: zAN prog 121=true:=by kernel_rfl
theorem zCG: zAN prog 122=true:=by kernel_rfl
theorem zEO: zAN prog 123=true:=by kernel_rfl
theorem zNC: zAN prog 124=true:=by kernel_rfl
theorem zIK: zAN prog 125=true:=by kernel_rfl
theorem zEg: zAN prog 126=true:=by kernel_rfl
theorem zJV: zAN prog 127=true:=by kernel_rfl
theorem zE3: zAN prog 128=true:=by kernel_rfl
theorem zF8: zAN prog 129=true:=by kernel_rfl
theorem zK4: zAN prog 130=true:=by kernel_rfl
theorem zJU: zAN prog 131=true:=by kernel_rfl
theorem zL3: zAN prog 132=true:=by kernel_rfl
theorem zIM: zAN prog 133=true:=by kernel_rfl
theorem zK3: zAN prog 137=true:=by kernel_rfl
theorem zDV: zAN prog 147=true:=by kernel_rfl
theorem zEG: zAN prog 148=true:=by kernel_rfl
theorem zDX: zAN prog 149=true:=by kernel_rfl
theorem zDW: zAN prog 150=true:=by kernel_rfl
theorem zIC: zAN prog 151=true:=by kernel_rfl
theorem zKJ: zAN prog 153=true:=by kernel_rfl
theorem zIT: prog.underlying 58=some (.int .u64):=by kernel_rfl
theorem zH2: (prog.underlying 58).isSome=true:=by kernel_rfl
theorem ubk: prog.underlying 109=some (.int .i64):=by kernel_rfl
theorem sbk: (prog.underlying 109).isSome=true:=by kernel_rfl
theorem sint: (prog.underlying 3).isSome=true:=by kernel_rfl
end Go.Proofs.YtcagoomibpcdlaaGreatDoor
namespace Go.Vm
theorem zOa{all:List Thing}{ord:List Nat}{size i:Nat}(h:sumN all ord+(zAV all i).need<=size): (begL all ord size).set (sumN all ord) true=begL all (ord++[i]) size:=by
 have hF:∀l:List Nat,(l.flatMap fun i=>true::List.replicate (zAV all i).size false).length=sumN all l:=fun l=>by
  induction l with
  |nil=>rfl
  |cons i r ih=>rw[qAb,qAE,ih,zDE,qAS,qAp,zDS]
 have hp:=zDS (zAV all i)
 unfold begL
 rw[qBN _ _ (by rw[hF];omega),hF,qBF,List.flatMap_append,qAg,zGR,zKd]
 congr 1
 obtain⟨n,hn⟩:∃n,size-sumN all ord=n+1:=⟨size-sumN all ord-1,by omega⟩
 rw[hn,List.replicate_succ,qBg]
 simp only[qAb,List.flatMap_nil,qBC,qBk]
 rw[List.replicate_append_replicate]
 congr 2
 omega
theorem zUQ{all:List Thing}{f:Nat->List Nat}(hf:∀i,(f i).length=(zAV all i).need){ly:List Nat}{i:Nat}(h:i∈ly): ((ly.flatMap f).drop (offL all ly i)).take (zAV all i).need=f i:=by
 apply qBo
 intro j
 rw[qAP,qAh]
 by_cases hj:j<(zAV all i).need
 ·rw[if_pos hj,zMQ hf h hj]
 ·rw[if_neg hj,qAz (by rw[hf];omega)]
theorem zXC{all:List Thing}{ly ord:List Nat}{i:Nat}(h:i∈ord): (fwdN all ly ord i)[0]?=some (8*offL all ord i):=by
 unfold fwdN;rw[if_pos h,Nat.mul_comm];rfl
theorem zRY{all:List Thing}{ly ord:List Nat}{i:Nat}(h:i∉ord): fwdN all ly ord i=zC2 all ly i:=by
 unfold fwdN zC2;rw[if_neg h]
def newB(all:List Thing)(ly ord:List Nat): Rf->List Nat
 | .n _=>[]
 | .b i=>if i∈ord then[]else zC2 all ly i
def othP(all:List Thing)(ly ord:List Nat)(k j:Nat): List Nat :=
 (ord.take k).flatMap (zC2 all ord)++((zCt (zAV all (ord.getD k 0))::(((zAV all (ord.getD k 0)).parts.take j).map (wdN all ord)++((zAV all (ord.getD k 0)).parts.drop j).map (wdN all ly)))++(ord.drop (k+1)).flatMap (zC2 all ly))
theorem zJZ{l:List Nat}{k i:Nat}(h:l[k]?=some i): l.drop k=i::l.drop (k+1):=by
 obtain⟨hl,e⟩:=qAA.1 h
 rw[qBD hl,e]
theorem zHN{l:List Nat}{k i:Nat}(h:l[k]?=some i): l.getD k 0=i:=by rw[qAD,h];rfl
theorem zKc{l:List Nat}{k i:Nat}(h:l[k]?=some i): l.take (k+1)=l.take k++[i]:=by rw[qBO,h];rfl
theorem zU2{all:List Thing}{ly ord:List Nat}{k i:Nat}(h:ord[k]?=some i)(h4:(zAV all i).kind≠4): othM all ly ord k=othP all ly ord k 0:=by
 unfold othM othP
 rw[zJZ h,zHN h,qAb]
 congr 2
 unfold zC2 zFH
 rw[if_neg h4]
 simp
theorem zTi{all:List Thing}{ly ord:List Nat}{k i:Nat}(h:ord[k]?=some i)(h4:(zAV all i).kind≠4): othP all ly ord k (zAV all i).parts.length=othM all ly ord (k+1):=by
 unfold othM othP
 rw[zHN h,zKc h,List.flatMap_append,qAg]
 congr 2
 unfold zC2 zFH
 simp[h4]
theorem zLl{all:List Thing}{ly ord:List Nat}{k i:Nat}(h:ord[k]?=some i)(h4:(zAV all i).kind=4): othM all ly ord k=othM all ly ord (k+1):=by
 unfold othM
 rw[zJZ h,zKc h,List.flatMap_append,qAg,qAb]
 congr 2
 unfold zC2 zFH
 simp[h4]
theorem zIl(ord:List Nat)(r:Rf): ord <+: addN ord [r]:=zEu [r] ord
theorem zTh{all:List Thing}{ly ord:List Nat}{k j i:Nat}(h:ord[k]?=some i)(hc:∀x∈ord.take k,∀r∈(zAV all x).parts,In ord r)(hp:∀r∈(zAV all i).parts.take j,In ord r)(r:Rf):
  othP all ly ord k j++newB all ly ord r=othP all ly (addN ord [r]) k j:=by
 obtain⟨hl,_⟩:=qAA.1 h
 rw[zIv]
 cases r with
 |n v=>simp[newB]
 |b x =>
  by_cases hx:x∈ord
  ·simp[newB,hx]
  ·have e1:(ord++[x])[k]?=some i:=by rw[qAF hl];exact h
   simp only[newB,if_neg hx]
   unfold othP
   rw[zHN h,zHN e1,qBA (by omega),List.drop_append_of_le_length (by omega),List.flatMap_append,qAg,qAg]
   congr 1
   ·refine zID fun j hj=>?_
    exact(zMK (List.prefix_append _ _) fun _=>hc j hj).symm
   ·rw[zKx (List.prefix_append ord [x]) hp]
    simp
theorem zNz{all:List Thing}{ly ord:List Nat}{k j i:Nat}(h:ord[k]?=some i)(h4:(zAV all i).kind≠4): (othP all ly ord k j).length=sumN all ord:=by
 have e:=zKt all ly ord k
 unfold othM at e
 unfold othP
 rw[zJZ h,qAb,qAE,qAE,zC8]at e
 rw[zHN h,qAE,qAE,qAS,qAE,qAC,qAC,<-qAE,qBT]
 have:(zAV all i).need=1+(zAV all i).parts.length:=by unfold Thing.need;rw[if_neg h4]
 omega
def posN(all:List Thing)(ord:List Nat)(k:Nat): Nat:=sumN all (ord.take k)
theorem zQu{all:List Thing}{ord:List Nat}{k i:Nat}(h:ord[k]?=some i): posN all ord (k+1)=posN all ord k+(zAV all i).need:=by
 unfold posN;rw[zKc h,zGR,zKd]
theorem zKn{all:List Thing}{l l':List Nat}(hp:l <+: l'){k:Nat}(hk:k<=l.length): posN all l' k=posN all l k:=by
 obtain⟨m,rfl⟩:=hp
 unfold posN;rw[qBA hk]
theorem zMy{all:List Thing}{ord:List Nat}{k:Nat}: posN all ord k<sumN all ord↔k<ord.length:=by
 have e:sumN all ord=posN all ord k+sumN all (ord.drop k):=by
  unfold posN;rw[<-zGR,qBT]
 constructor
 ·intro h
  rcases qAR k ord.length with h1|h1
  ·exact h1
  ·rw[List.drop_eq_nil_of_le h1]at e
   have:sumN all []=0:=rfl
   omega
 ·intro h
  have e2:ord[k]?=some ord[k]:=qAB h
  rw[zJZ e2,zDE]at e
  have:=zF3 (zAV all ord[k])
  omega
theorem zQ8{all:List Thing}{ly ord:List Nat}{k i:Nat}(h:ord[k]?=some i): (othM all ly ord k)[posN all ord k]?=some (zCt (zAV all i)):=by
 unfold othM posN
 rw[zJZ h,qAb,qAG (by rw[zEs (zC8 all ord)];exact qAN _),zEs (zC8 all ord),qBF]
 rfl
theorem zWd{all:List Thing}{ly ord:List Nat}{k j i:Nat}(h:ord[k]?=some i){r:Rf}(hr:(zAV all i).parts[j]?=some r): (othP all ly ord k j)[posN all ord k+1+j]?=some (wdN all ly r):=by
 obtain⟨hl,e⟩:=qAA.1 hr
 unfold othP posN
 rw[zHN h,qAG (by rw[zEs (zC8 all ord)];omega),zEs (zC8 all ord),qAF (by simp;omega),
  show sumN all (ord.take k)+1+j-sumN all (ord.take k)=j+1 by omega,List.getElem?_cons_succ,qAG (by simp;omega)]
 simp[List.length_take,Nat.min_eq_left (Nat.le_of_lt hl),List.getElem?_drop,hr]
theorem zTg{all:List Thing}{ly ord:List Nat}{k j i:Nat}(h:ord[k]?=some i){r:Rf}(hr:(zAV all i).parts[j]?=some r): (othP all ly ord k j).set (posN all ord k+1+j) (wdN all ord r)=othP all ly ord k (j+1):=by
 obtain⟨hl,e⟩:=qAA.1 hr
 unfold othP posN
 rw[zHN h,qBN _ _ (by rw[zEs (zC8 all ord)];omega),zEs (zC8 all ord),List.set_append_left _ _ (by simp;omega),
  show sumN all (ord.take k)+1+j-sumN all (ord.take k)=j+1 by omega,List.set_cons_succ,qBN _ _ (by simp;omega)]
 congr 3
 rw[qAC,qAJ,qBr (Nat.le_of_lt hl),qBF,qBD hl,e,qAr,qBg,qBO,hr,qAk]
 simp
theorem zQ7{all:List Thing}{ly ord:List Nat}{k:Nat}(hk:k<=ord.length)(hc:∀j∈ord.take k,∀r∈(zAV all j).parts,In ord r)(r:Rf): othM all ly ord k++newB all ly ord r=othM all ly (addN ord [r]) k:=by
 rw[zIv]
 cases r with
 |n v=>simp[newB]
 |b i =>
  by_cases h:i∈ord
  ·simp[newB,h]
  ·simp only[newB,if_neg h];exact zTj hk hc
theorem zQV(all:List Thing)(ord:List Nat): ∀f,zH4 all f ord ord.length=ord
 |0=>rfl
 |f+1=>by unfold zH4;simp
theorem zO9{all:List Thing}{ord:List Nat}{k i f:Nat}(h:ord[k]?=some i): zH4 all (f+1) ord k=zH4 all f (addN ord (zAV all i).parts) (k+1):=by
 rw[zH4,h];rfl
structure Mv(all:List Thing)(ly:List Nat)(roots:List Rf)(k:Nat)(ord:List Nat): Prop where
 nodup:ord.Nodup
 sub:∀j∈ord,j∈ly
 le:k<=ord.length
 closed:∀j∈ord.take k,∀r∈(zAV all j).parts,In ord r
 rt:∀r∈roots,In ord r
 scan:∃f,zH4 all f ord k=zDn all roots/\all.length+1<=f+k
theorem zIu{ly ord:List Nat}{rs:List Rf}(h:∀j∈ord,j∈ly)(hr:∀r∈rs,In ly r): ∀j∈addN ord rs,j∈ly:=fun j hj=>by
 rcases(zEv j rs ord).1 hj with h1|h1
 ·exact h j h1
 ·exact hr _ h1 j rfl
theorem Mv.start{all:List Thing}{ly:List Nat}{roots:List Rf}(hr:∀r∈roots,In ly r): Mv all ly roots 0 (addN [] roots) where
 nodup:=zDj roots [] (by simp)
 sub:=zIu (by simp) hr
 le:=qAX _
 closed:=by simp
 rt:=fun r h=>zLG [] roots h
 scan:=⟨all.length+1,rfl,by omega⟩
theorem Mv.next{all:List Thing}{ly:List Nat}{roots:List Rf}{k i:Nat}{ord:List Nat}(h:Mv all ly roots k ord)(hlt:∀i∈ly,i<all.length)(hcl:Closed all ly)(hi:ord[k]?=some i): Mv all ly roots (k+1) (addN ord (zAV all i).parts):=by
 have hp:ord <+: addN ord (zAV all i).parts:=zEu _ _
 have hil:i∈ord:=qAK hi
 have hkl:=(qAA.1 hi).1
 have hsub:∀r∈(zAV all i).parts,In ly r:=fun r hr j e=>hcl i (h.sub i hil) j (by rw[<-e];exact hr)
 refine⟨zDj _ _ h.nodup,zIu h.sub hsub,qA2 hkl hp.length_le,fun j hj r hr=>?_,fun r hr=>(h.rt r hr).pre hp,?_⟩
 ·obtain⟨m,e⟩:=hp
  rw[<-e,qBA (by omega),zKc hi]at hj
  rcases qAd.1 hj with h1|h1
  ·exact(h.closed j h1 r hr).pre (zEu _ _)
  ·rw[qAO]at h1;subst h1;exact zLG ord _ hr
 ·obtain⟨f,h1,h2⟩:=h.scan
  have hol:ord.length<=all.length:=zHj h.nodup fun j hj=>hlt j (h.sub j hj)
  obtain⟨f',rfl⟩:∃f',f=f'+1:=⟨f-1,by omega⟩
  rw[zO9 hi]at h1
  exact⟨f',h1,by omega⟩
theorem Mv.fin{all:List Thing}{ly:List Nat}{roots:List Rf}{ord:List Nat}{k:Nat}(h:Mv all ly roots k ord)(hk:ord.length<=k): zDn all roots=ord/\k=ord.length:=by
 have e:k=ord.length:=Nat.le_antisymm h.le hk
 subst e
 obtain⟨f,h1,_⟩:=h.scan
 rw[zQV]at h1
 exact⟨h1.symm,rfl⟩
def zHc(all:List Thing)(ly ord:List Nat)(rs:List Rf)(i:Nat): List Nat:=(rs.take i).map (wdN all ord)++(rs.drop i).map (wdN all ly)
theorem zWL(all:List Thing)(ly ord:List Nat)(rs:List Rf): zHc all ly ord rs 0=rs.map (wdN all ly):=by simp[zHc]
theorem zQb(all:List Thing)(ly ord:List Nat)(rs:List Rf): zHc all ly ord rs rs.length=rs.map (wdN all ord):=by simp[zHc]
theorem zQa(all:List Thing)(ly ord:List Nat)(rs:List Rf)(i:Nat): (zHc all ly ord rs i).length=rs.length:=by
 unfold zHc;rw[qAE,qAC,qAC,<-qAE,qBT]
theorem zTJ{all:List Thing}{ly ord:List Nat}{rs:List Rf}{i:Nat}{r:Rf}(h:rs[i]?=some r): (zHc all ly ord rs i)[i]?=some (wdN all ly r):=by
 obtain⟨hl,e⟩:=qAA.1 h
 unfold zHc
 rw[qAG (by simp;omega)]
 simp[List.length_take,Nat.min_eq_left (Nat.le_of_lt hl),List.getElem?_drop,h]
theorem zPB{all:List Thing}{ly ord:List Nat}{rs:List Rf}{i:Nat}{r:Rf}(h:rs[i]?=some r)(hi:∀x∈rs.take i,In ord x): (zHc all ly ord rs i).set i (wdN all (addN ord [r]) r)=zHc all ly (addN ord [r]) rs (i+1):=by
 obtain⟨hl,e⟩:=qAA.1 h
 unfold zHc
 rw[qBN _ _ (by simp;omega),qAC,qAJ,qBr (Nat.le_of_lt hl),qBF,qBD hl,e,qAr,qBg,qBO,h,qAk,zKx (zIl ord r) hi]
 simp
theorem zIm: ∀l:List UInt8,zEf l<256 ^ l.length
 |[]=>by simp[zEf]
 |b::r=>by
  have:=zIm r
  have hb:b.toNat<256:=b.toNat_lt
  rw[zEf,qAS,Nat.pow_succ];omega
theorem zLk: ∀(l:List UInt8) (b:UInt8),zEf (l++[b])=zEf l+b.toNat*256 ^ l.length
 |[],b=>by simp[zEf]
 |a::r,b=>by
  rw[qBk,zEf,zEf,zLk r b,qAS,Nat.pow_succ,Nat.mul_add,<-Nat.mul_assoc,Nat.mul_comm 256 b.toNat,Nat.mul_assoc b.toNat,Nat.mul_comm 256 (256 ^ r.length),Nat.add_assoc]
theorem zNy: ∀(l:List UInt8) (i:Nat) (b:UInt8),l[i]?=some b->zEf l / 256 ^ i%256=b.toNat
 |[],i,b,h=>by simp at h
 |a::r,0,b,h=>by
  simp only[List.getElem?_cons_zero,qBn]at h
  subst h
  have hb:a.toNat<256:=a.toNat_lt
  rw[zEf,Nat.pow_zero,Nat.div_one];omega
 |a::r,i+1,b,h=>by
  rw[List.getElem?_cons_succ]at h
  have hb:a.toNat<256:=a.toNat_lt
  rw[zEf,Nat.pow_succ,Nat.mul_comm (256 ^ i) 256,<-Nat.div_div_eq_div_mul,show (a.toNat+256*zEf r) / 256=zEf r by omega]
  exact zNy r i b h
theorem zEV: ∀(k:Nat) (l:List UInt8) (q:Nat),q<k->(zFc k l)[q]?=some (zEf ((l.drop (8*q)).take 8))
 |0,_,_,h=>by omega
 |k+1,l,0,_=>by rw[zFc];rfl
 |k+1,l,q+1,h=>by
  rw[zFc,List.getElem?_cons_succ,zEV k (l.drop 8) q (by omega),List.drop_drop]
  rw[show 8*(q+1)=8+8*q by omega]
theorem zTe(k:Nat)(l:List UInt8): ∀x∈zFc k l,x<18446744073709551616:=by
 intro x hx
 obtain⟨q,hq⟩:=List.getElem?_of_mem hx
 have hl:q<k:=by have:=(qAA.1 hq).1;rwa [zDm]at this
 rw[zEV k l q hl]at hq
 injection hq with hq
 rw[<-hq]
 have h1:=zIm ((l.drop (8*q)).take 8)
 have h2:((l.drop (8*q)).take 8).length<=8:=by rw[qAJ];omega
 have h3:256 ^ ((l.drop (8*q)).take 8).length<=256 ^ 8:=Nat.pow_le_pow_right (by decide) h2
 have h4:(256:Nat) ^ 8=18446744073709551616:=by decide
 omega
theorem zQ1: ∀k:Nat,zFc k []=List.replicate k 0
 |0=>rfl
 |k+1=>by
  show zEf (List.take 8 [])::zFc k (List.drop 8 [])=_
  rw[List.take_nil,List.drop_nil,zQ1 k,List.replicate_succ];rfl
theorem zPK{k:Nat}{s:List UInt8}{i:Nat}{b:UInt8}(h:s[i]?=some b)(hk:i / 8<k):
  (zFc k (s.take i)).set (i / 8) (zEf (((s.take i).drop (8*(i / 8))).take 8)+b.toNat*256 ^ (i%8))=zFc k (s.take (i+1)):=by
 obtain⟨hl,e⟩:=qAA.1 h
 have ht:s.take (i+1)=s.take i++[b]:=by rw[qBO,h];rfl
 apply qBo
 intro q
 rw[qAT,zDm]
 by_cases hq:i / 8=q
 ·subst hq
  rw[if_pos rfl,if_pos hk,zEV _ _ _ hk,ht,List.drop_append_of_le_length (by rw[qAJ];omega)]
  have hlen:((s.take i).drop (8*(i / 8))).length=i%8:=by rw[qAe,qAJ];omega
  have e1:(((s.take i).drop (8*(i / 8))).take 8)=(s.take i).drop (8*(i / 8)):=qAi (by rw[hlen];omega)
  have e2:(((s.take i).drop (8*(i / 8)))++[b]).take 8=((s.take i).drop (8*(i / 8)))++[b]:=qAi (by rw[qAE,hlen,qAy];omega)
  rw[e1,e2,zLk,hlen]
 ·rw[if_neg hq]
  rcases qAR q k with h1|h1
  ·rw[zEV _ _ _ h1,zEV _ _ _ h1]
   congr 2
   apply qBo
   intro j
   rw[qAP,qAP]
   by_cases h8:j<8
   ·rw[if_pos h8,if_pos h8,qAh,qAh,qAP,qAP]
    by_cases h2:8*q+j<i
    ·rw[if_pos h2,if_pos (by omega)]
    ·rw[if_neg h2,if_neg (by omega)]
   ·rw[if_neg h8,if_neg h8]
  ·rw[qAz (by rw[zDm];exact h1),qAz (by rw[zDm];exact h1)]
theorem zPJ{k:Nat}{s:List UInt8}{i:Nat}{b:UInt8}(h:s[i]?=some b)(hk:i / 8<k): ∃w,(zFc k s)[i / 8]?=some w/\w<18446744073709551616/\w / 256 ^ (i%8)%256=b.toNat:=by
 refine⟨_,zEV k s _ hk,?_,?_⟩
 ·exact zTe k s _ (qAK (zEV k s _ hk))
 ·refine zNy _ _ _ ?_
  rw[qAP,if_pos (by omega),qAh,show 8*(i / 8)+i%8=i by omega]
  exact h
theorem zWc{s:List UInt8}{i:Nat}{b:UInt8}: zEf (((s.take i).drop (8*(i / 8))).take 8) ||| b.toNat*256 ^ (i%8)=zEf (((s.take i).drop (8*(i / 8))).take 8)+b.toNat*256 ^ (i%8):=by
 have h1:=zIm (((s.take i).drop (8*(i / 8))).take 8)
 have h2:(((s.take i).drop (8*(i / 8))).take 8).length<=i%8:=by rw[qAJ,qAe,qAJ];omega
 have h3:256 ^ (((s.take i).drop (8*(i / 8))).take 8).length<=256 ^ (i%8):=Nat.pow_le_pow_right (by decide) h2
 have e:256 ^ (i%8)=2 ^ (8*(i%8)):=by rw[Nat.pow_mul]
 have h4:zEf (((s.take i).drop (8*(i / 8))).take 8)<2 ^ (8*(i%8)):=by rw[<-e];omega
 have:=Nat.two_pow_add_eq_or_of_lt h4 b.toNat
 rw[e,Nat.or_comm,Nat.mul_comm b.toNat,<-this,Nat.add_comm]
theorem zHh{all:List Thing}{o:Thing}{i:Nat}(h:i<all.length): zAV (all++[o]) i=zAV all i:=by
 unfold zAV
 rw[qAD,qAD,qAF h]
theorem zKG(all:List Thing)(o:Thing): zAV (all++[o]) all.length=o:=by
 unfold zAV
 rw[qAD,qAG (qAN _),qBF];rfl
theorem zN0{all:List Thing}{o:Thing}: ∀{ly:List Nat} {i:Nat},(∀j∈ly,j<all.length)->offL (all++[o]) ly i=offL all ly i
 |[],_,_=>rfl
 |j::r,i,h=>by
  rw[offL,offL,zHh (h j (List.mem_cons_self ..)),zN0 fun k hk=>h k (qAm _ hk)]
theorem zHY{all:List Thing}{o:Thing}: ∀{ly:List Nat},(∀j∈ly,j<all.length)->sumN (all++[o]) ly=sumN all ly
 |[],_=>rfl
 |j::r,h=>by
  rw[zDE,zDE,zHh (h j (List.mem_cons_self ..)),zHY fun k hk=>h k (qAm _ hk)]
theorem zP4{all:List Thing}{ly:List Nat}{o:Thing}{r:Rf}(hlt:∀j∈ly,j<all.length)(hr:In ly r): wdN (all++[o]) (ly++[all.length]) r=wdN all ly r:=by
 cases r with
 |n v=>rfl
 |b i=>rw[wdN,wdN,zIo (hr i rfl),zN0 hlt]
theorem zOX{all:List Thing}{ly:List Nat}{o x:Thing}(hlt:∀j∈ly,j<all.length)(hx:∀r∈x.parts,In ly r): zFH (all++[o]) (ly++[all.length]) x=zFH all ly x:=by
 unfold zFH
 split
 ·rfl
 ·exact qBU fun r hr=>zP4 hlt (hx r hr)
theorem zK7{α β:Type}{l:List α}{f g:α->List β}(h:∀i∈l,f i=g i): l.flatMap f=l.flatMap g:=by
 rw[List.flatMap_def,List.flatMap_def,qBU h]
theorem zP1{all:List Thing}{ly:List Nat}{o:Thing}(hlt:∀j∈ly,j<all.length)(hcl:Closed all ly)(ho:∀r∈o.parts,In ly r):
  zBs (all++[o]) (ly++[all.length])=zBs all ly++zCt o::zFH all ly o:=by
 have h1:ly.flatMap (zC2 (all++[o]) (ly++[all.length]))=ly.flatMap (zC2 all ly):=zK7 fun i hi=>by
  unfold zC2
  rw[zHh (hlt i hi),zOX (x:=zAV all i) hlt fun r hr j e=>hcl i hi j (e▸hr)]
 have h2:zC2 (all++[o]) (ly++[all.length]) all.length=zCt o::zFH all ly o:=by
  unfold zC2
  rw[zKG,zOX hlt ho]
 unfold zBs
 rw[List.flatMap_append,qAb,List.flatMap_nil,qBC,h1,h2]
theorem zXQ{all:List Thing}{ly:List Nat}{o:Thing}{size:Nat}(hlt:∀j∈ly,j<all.length)(h:sumN all ly+o.need<=size): begL (all++[o]) (ly++[all.length]) size=(begL all ly size).set (sumN all ly) true:=by
 have e:=zOa (all:=all++[o]) (ord:=ly) (size:=size) (i:=all.length) (by rw[zHY hlt,zKG];exact h)
 rw[zHY hlt]at e
 have h1:(ly.flatMap fun i=>true::List.replicate (zAV (all++[o]) i).size false)=ly.flatMap fun i=>true::List.replicate (zAV all i).size false:=zK7 fun i hi=>by rw[zHh (hlt i hi)]
 have h2:begL (all++[o]) ly size=begL all ly size:=by
  unfold begL
  rw[zHY hlt,h1]
 rw[<-e,h2]
def Thing.with0(o:Thing)(b:Rf): Thing:={ o with parts:=o.parts.set 0 b }
theorem zJ6(o:Thing)(b:Rf): (o.with0 b).need=o.need:=by
 unfold Thing.with0 Thing.need
 dsimp only
 rw[qAa]
theorem zOz(o:Thing)(b:Rf): (o.with0 b).size=o.size:=by unfold Thing.size;rw[zJ6]
theorem zKf{all:List Thing}{i:Nat}(hi:i<all.length)(b:Rf)(j:Nat): (zAV (all.set i ((zAV all i).with0 b)) j).need=(zAV all j).need:=by
 rw[zEW hi]
 split
 ·subst_vars;exact zJ6 _ _
 ·rfl
theorem zKF{all all':List Thing}(h:∀j,(zAV all' j).need=(zAV all j).need): ∀(ly:List Nat) (i:Nat),offL all' ly i=offL all ly i
 |[],_=>rfl
 |j::r,i=>by rw[offL,offL,h,zKF h r]
theorem zJ9{all all':List Thing}(h:∀j,(zAV all' j).need=(zAV all j).need): ∀(ly:List Nat),sumN all' ly=sumN all ly
 |[]=>rfl
 |j::r=>by rw[zDE,zDE,h,zJ9 h r]
theorem zPh{all all':List Thing}(h:∀j,(zAV all' j).need=(zAV all j).need)(ly:List Nat)(size:Nat): begL all' ly size=begL all ly size:=by
 unfold begL Thing.size
 rw[zJ9 h]
 congr 1
 exact zK7 fun i _=>by rw[h]
theorem zLJ{all all':List Thing}(h:∀j,(zAV all' j).need=(zAV all j).need)(ly:List Nat): wdN all' ly=wdN all ly:=by
 funext r
 cases r with
 |n v=>rfl
 |b i=>rw[wdN,wdN,zKF h]
theorem zOM{all:List Thing}{f f':Nat->List Nat}{i k x:Nat}(hf:∀j,(f j).length=(zAV all j).need)(h1:∀j,j≠i->f' j=f j)(h2:f' i=(f i).set k x)(hk:k<(zAV all i).need):
  ∀{l:List Nat},l.Nodup->i∈l->l.flatMap f'=(l.flatMap f).set (offL all l i+k) x
 |j::r,hn,hi=>by
  rw[qAb,qAb,offL]
  have hn':=List.nodup_cons.1 hn
  by_cases hj:j=i
  ·subst hj
   rw[if_pos rfl,qAU,h2,List.set_append_left k x (by rw[hf];exact hk)]
   congr 1
   exact zK7 fun a ha=>h1 a fun e=>hn'.1 (e▸ha)
  ·rw[if_neg hj,h1 j hj,qBN _ x (by rw[hf];omega),hf,show (zAV all j).need+offL all r i+k-(zAV all j).need=offL all r i+k by omega]
   rw[zOM hf h1 h2 hk hn'.2 ((qBG.1 hi).resolve_left fun e=>hj e.symm)]
theorem zP0{all:List Thing}{ly:List Nat}{i:Nat}{b:Rf}(hn:ly.Nodup)(hi:i∈ly)(hlt:i<all.length)(hk:(zAV all i).kind=3)(hp:(zAV all i).parts.length=1):
  zBs (all.set i ((zAV all i).with0 b)) ly=(zBs all ly).set (offL all ly i+1+0) (wdN all ly b):=by
 have hw:=zLJ (zKf hlt b) ly
 refine zOM (k:=1) (fun j=>zC8 all ly j) ?_ ?_ (by unfold Thing.need;rw[if_neg (by omega)];omega) hn hi
 ·intro j hj
  unfold zC2 zFH
  rw[zEW hlt,if_neg (fun e=>hj e.symm),hw]
 ·unfold zC2 zFH
  rw[zEW hlt,if_pos rfl,hw]
  have e1:zCt ((zAV all i).with0 b)=zCt (zAV all i):=by unfold zCt;rw[zOz];rfl
  have e2:((zAV all i).with0 b).kind=(zAV all i).kind:=rfl
  rw[e1,e2,if_neg (by omega),if_neg (by omega)]
  show zCt (zAV all i)::List.map _ ((zAV all i).parts.set 0 b)=zCt (zAV all i)::(List.map _ (zAV all i).parts).set 0 _
  rw[List.map_set]
structure Nn where
 kind:Int
 text:List UInt8
 num:Int
 kids:Int
 deriving Inhabited,DecidableEq
def shN(m:Img)(all:List Thing): Nat->List Nn->Rf->List Nn
 |0,l,_=>l
 |f+1,l,r=>if 4000<l.length then l else match r with
  | .n v=>l++[⟨51,[],v,0⟩]
  | .b i =>
   if(zAV all i).kind=4 then l++[⟨52,(zAV all i).text,0,0⟩]
   else if(zAV all i).kind=1 then(zAV all i).parts.foldl (shN m all f) (l++[⟨53,(m.pool.getD (zAV all i).tag.toNat default).text,0,(zAV all i).parts.length⟩])
   else l++[⟨54,[],0,0⟩]
def rkR: Rf->Nat
 | .n _=>0
 | .b i=>i+1
theorem zK6{α β:Type}{f:β->α->β}{P:β->Prop}: ∀{l:List α} {b:β},(∀b a,a∈l->P b->P (f b a))->P b->P (l.foldl f b)
 |[],_,_,hb=>hb
 |a::l,b,h,hb=>zK6 (f:=f) (l:=l) (fun b x hx hp=>h b x (qAm _ hx) hp) (h b a (List.mem_cons_self ..) hb)
theorem zKe(m:Img)(all:List Thing): ∀(f:Nat) (l:List Nn) (r:Rf),l.length<=4001->(shN m all f l r).length<=4001
 |0,l,_,h=>h
 |f+1,l,r,h=>by
  unfold shN
  split
  ·exact h
  ·rename_i hl
   cases r with
   |n v=>simp;omega
   |b i =>
    dsimp only
    split
    ·rw[qAE,qAy];omega
    ·split
     ·refine zK6 (P:=fun l=>l.length<=4001) (fun b a _ hb=>zKe m all f b a hb) ?_
      rw[qAE,qAy];omega
     ·simp;omega
def zE8(m:Img)(all:List Thing)(r:Rf): List Nn:=shN m all (rkR r+1) [] r
structure Sz(s t:St): Prop where
 tr:t.tries.length<=s.tries.length+1
 out:t.out.length<=s.out.length+1
 stk:t.stack.length<=s.stack.length+1
theorem Sz.mk'{s t:St}(h1:t.tries=s.tries)(h2:t.out=s.out)(h3:t.stack.length<=s.stack.length+1): Sz s t:=⟨by rw[h1];omega,by rw[h2];omega,h3⟩
theorem Sz.eq'{s t:St}(h1:t.tries=s.tries)(h2:t.out=s.out)(h3:t.stack=s.stack): Sz s t:=.mk' h1 h2 (by rw[h3];omega)
theorem zMo{α:Type}(l:List α)(n:Nat)(x:α): (l.take n++[x]).length<=l.length+1:=by rw[qAE,qAJ,qAy];omega
theorem zMq(s:St)(e:Int): Sz s (s.stop e):=.eq' rfl rfl rfl
theorem zGw(s:St)(n:Nat)(r:Rf): Sz s (s.instead n r):=.mk' rfl rfl (zMo _ _ _)
theorem zOY(s:St)(o:Thing)(n:Nat): Sz s (s.block o n):=by
 unfold St.block St.gc St.alloc
 repeat' split
 all_goals first|exact .eq' rfl rfl rfl|exact .mk' rfl rfl (zMo _ _ _)
theorem zKi(s:St)(n:Int): Sz s (s.raise n):=by
 unfold St.raise;split
 ·exact .eq' rfl rfl rfl
 ·exact⟨by show s.tries.dropLast.length<=_;rw[qAt];omega,by show s.out.length<=_;omega,zMo _ _ _⟩
theorem zY9(s:St)(b:Bool): Sz s (s.app b):=by
 unfold St.app;dsimp only
 repeat' split
 all_goals first|exact .eq' rfl rfl rfl|exact .mk' rfl rfl (zMo _ _ _)
theorem zWs(s:St)(p a b:Int): Sz s (s.ints p a b):=by
 unfold St.ints
 repeat' split
 all_goals first|exact zKi s _|exact zGw s _ _
theorem zYd(s:St)(t:List UInt8): Sz s (s.put t):=⟨by show s.tries.length<=_;omega,by show (s.out++[t]).length<=_;simp,by show s.stack.length<=_;omega⟩
theorem zWU(s:St)(r:Rf): Sz s (s.push r):=by
 unfold St.push;split
 ·exact zMq s _
 ·exact zGw s _ _
theorem zWW(shw:Int->List UInt8)(s:St)(p:Int): Sz s (s.prim shw p):=by
 unfold St.prim;dsimp only
 repeat' split
 all_goals first
  |exact zWs s _ _ _
  |exact zMq s _
  |exact zKi s _
  |exact zOY s _ _
  |exact zGw s _ _
  |exact zYd s _
  |exact .mk' rfl rfl (zMo _ _ _)
  |exact⟨by show s.tries.length<=_;omega,by show (s.out++[_]).length<=_;simp,zMo _ _ _⟩
theorem zU6{u a b:St}{c:Prop}[Decidable c](ha:Sz u a)(hb:Sz u b): Sz u (if c then a else b):=by split <;> assumption
theorem zQL(shw:Int->List UInt8)(m:Img)(s:St): Sz s (step shw m s):=by
 unfold step;dsimp only
 have g:∀{t},Sz (s.goto (s.c.at_+1)) t->Sz s t:=fun h=>⟨h.tr,h.out,h.stk⟩
 refine g ?_
 clear g
 generalize s.goto (s.c.at_+1)=u
 generalize m.code.getD s.c.at_.toNat default=i
 generalize m.pool.getD i.a.toNat default=p1
 generalize m.pool.getD i.b.toNat default=p2
 generalize u.top 0=r
 repeat' (with_reducible refine zU6 ?_ ?_)
 all_goals try (cases r <;> dsimp only)
 all_goals repeat' (with_reducible refine zU6 ?_ ?_)
 all_goals first
  |exact zMq _ _
  |exact zOY _ _ _
  |exact zWU _ _
  |exact zGw _ _ _
  |exact zY9 _ _
  |exact zWW _ _ _
  |exact zKi _ _
  |exact .eq' rfl rfl rfl
  |exact .mk' rfl rfl (zMo _ _ _)
  |exact .mk' rfl rfl (by show (u.stack.take _).length<=_;rw[qAJ];omega)
  |exact⟨by show u.tries.dropLast.length<=_;rw[qAt];omega,by show u.out.length<=_;omega,by show u.stack.length<=_;omega⟩
  |exact⟨by show (u.tries++[_]).length<=_;simp,by show u.out.length<=_;omega,by show u.stack.length<=_;omega⟩
structure Run(con:List UInt8->Bool)(m:Img)(A:Nat->Option VS)(words:Int)(fuel:Nat)(T:St)(shw:Int->List UInt8)(s:St)(k:Nat): Prop where
 res:Res con m A s
 steps:s.steps=k
 le:k<=fuel
 words:s.words=words
 tr:s.tries.length<=k
 out:s.out.length<=k
 stk:s.stack.length<=k
 tw:runS shw m (fuel-k) s=T
variable {con:List UInt8->Bool}{m:Img}{A:Nat->Option VS}{words:Int}{fuel:Nat}{T:St}{shw:Int->List UInt8}
theorem Run.begin_(hg:Good con m A)(hi:ImgOk m)(hw:0<=words): Run con m A words fuel (runS shw m fuel (start words)) shw (start words) 0 :=
 ⟨.of rfl (MOk.start hg hi hw),rfl,qAX _,rfl,qAN _,qAN _,qAN _,rfl⟩
theorem Run.next{s:St}{k:Nat}(h:Run con m A words fuel T shw s k)(h0:s.fin=0)(hk:k<fuel):
  MOk con m A { s with steps:=s.steps+1 }/\Run con m A words fuel T shw (step shw m { s with steps:=s.steps+1 }) (k+1):=by
 have hm:=(h.res.ok h0).more
 have hz:=zQL shw m { s with steps:=s.steps+1 }
 have hf:=zIf shw m { s with steps:=s.steps+1 }
 have htr:=hz.tr
 have hou:=hz.out
 have hsk:=hz.stk
 refine⟨hm,zMs shw hm h0,?_,hk,hf.words.trans h.words,?_,?_,?_,?_⟩
 ·rw[hf.steps];show s.steps+1=_;rw[h.steps];omega
 ·have:=h.tr;change _<=s.tries.length+1 at htr;omega
 ·have:=h.out;change _<=s.out.length+1 at hou;omega
 ·have:=h.stk;change _<=s.stack.length+1 at hsk;omega
 ·rw[<-zIi shw m _ s h0,show fuel-(k+1)+1=fuel-k by omega];exact h.tw
theorem Run.out_{s:St}{k:Nat}(h:Run con m A words fuel T shw s k)(h0:s.fin=0)(hk:¬k<fuel): T=s.stop 3:=by
 have:=h.le
 rw[<-h.tw,show fuel-k=0 by omega,runS,if_pos h0]
theorem Run.done{s:St}{k:Nat}(h:Run con m A words fuel T shw s k)(h0:s.fin≠0): T=s:=by
 rw[<-h.tw,zGq shw m _ s h0]
end Go.Vm
namespace Go.Vm
variable {con:List UInt8->Bool}{m:Img}{A:Nat->Option VS}
def CK.popd(c:CK): CK:={ c with work:=c.work.dropLast }
def CK.stAt(c:CK)(k:Int): CS:=((c.at_[k.toNat]?).getD none).getD ⟨0,0,[]⟩
def CK.lastW(c:CK): Int:=(c.work.getLast?).getD 0
def CK.round(con:List UInt8->Bool)(m:Img)(c:CK): CK:=c.popd.doC con m c.lastW (c.stAt c.lastW)
def CK.run(con:List UInt8->Bool)(m:Img): Nat->CK->CK
 |0,c=>c
 |n+1,c=>if c.bad=true\/c.work=[]then c else CK.run con m n (c.round con m)
def CK.free(c:CK): Nat:=(c.at_.filter Option.isNone).length
def CK.mu(c:CK): Nat:=2*c.free+c.work.length
theorem zPc{l:List (Option CS)}: ∀{k:Nat} {s:CS},l[k]?=some none->((l.set k (some s)).filter Option.isNone).length+1=(l.filter Option.isNone).length:=by
 induction l with
 |nil=>intro k s h;simp at h
 |cons a r ih =>
  intro k s h
  cases k with
  |zero =>
   simp at h;subst h
   simp
  |succ k =>
   simp at h
   have:=ih (s:=s) h
   rw[List.set_cons_succ,qBI,qBI]
   split
   ·rw[qAS,qAS];omega
   ·exact this
theorem zNJ(c:CK)(k:Int)(s:CS): (c.come k s).mu<=c.mu:=by
 unfold CK.come
 split
 ·exact qAN _
 ·rename_i h
  have:=zPc (s:=s) h
  unfold CK.mu CK.free
  show 2*((c.at_.set k.toNat (some s)).filter Option.isNone).length+(c.work++[k]).length<=_
  rw[qAE,qAy];omega
 ·split <;> exact qAN _
theorem zOP{s:CS}: ∀(tw:List Int) (c:CK),(tw.foldl (fun c t=>c.come t s) c).mu<=c.mu
 |[],_=>qAN _
 |t::r,c=>qA2 (zOP r (c.come t s)) (zNJ c t s)
theorem zUS(c:CK)(k n:Int): (c.begin k n).mu<=c.mu:=by
 unfold CK.begin
 split
 ·exact qAN _
 ·exact zNJ ({ c with has:=putI c.has k (n+1) }:CK) _ _
theorem zIg(c:CK)(s:CS)(fl a b:Int)(h:Bool)(tw:List Int): (c.stepC s fl a b h tw).mu<=c.mu:=by
 unfold CK.stepC
 split
 ·exact qAN _
 ·exact zOP tw c
theorem zZw(con:List UInt8->Bool)(m:Img)(c:CK)(k:Int)(s:CS): (c.doC con m k s).mu<=c.mu:=by
 unfold CK.doC
 dsimp only
 split
 ·split
  ·exact qAN _
  ·exact zIg _ _ _ _ _ _ _
 ·split
  ·exact qA2 (zNJ _ _ _) (zIg _ _ _ _ _ _ _)
  ·split
   ·exact qA2 (zUS _ _ _) (zIg _ _ _ _ _ _ _)
   ·exact zIg _ _ _ _ _ _ _
theorem zNr(con:List UInt8->Bool)(m:Img){c:CK}(h:c.work≠[]): (c.round con m).mu<c.mu:=by
 refine Nat.lt_of_le_of_lt (zZw con m c.popd _ _) ?_
 unfold CK.mu CK.popd
 have:0<c.work.length:=qBi.2 h
 show 2*c.free+c.work.dropLast.length<_
 rw[qAt];omega
structure CRun(con:List UInt8->Bool)(m:Img)(T:CK)(c:CK): Prop where
 inv:CInv m c
 seen:c.bad=false->Seen con m c
 zero:c.bad=false->c.at_[0]?=some (some ⟨-1,0,[]⟩)
 ag:∀A,Good con m A->Ag A c
 tw:CK.run con m c.mu c=T
theorem zNp(con:List UInt8->Bool)(m:Img): ∀(n k:Nat) (c:CK),c.mu<=n->c.mu<=k->CK.run con m n c=CK.run con m k c
 |0,0,_,_,_=>rfl
 |0,k+1,c,h,_=>by
  have:c.work=[]:=by
   have:c.work.length=0:=by unfold CK.mu at h;omega
   exact List.length_eq_zero_iff.1 this
  rw[CK.run,CK.run,if_pos (.inr this)]
 |n+1,0,c,_,h=>by
  have:c.work=[]:=by
   have:c.work.length=0:=by unfold CK.mu at h;omega
   exact List.length_eq_zero_iff.1 this
  rw[CK.run,CK.run,if_pos (.inr this)]
 |n+1,k+1,c,h1,h2=>by
  rw[CK.run,CK.run]
  split
  ·rfl
  ·rename_i hc
   have:=zNr con m (c:=c) fun e=>hc (.inr e)
   exact zNp con m n k _ (by omega) (by omega)
theorem CRun.next(him:ImgOk m){T c:CK}(h:CRun con m T c)(hb:c.bad=false)(hw:c.work≠[]):
  ∃k s,c.work=c.work.dropLast++[k]/\0<=k/\k.toNat<m.code.length/\c.popd.at_[k.toNat]?=some (some s)/\CInv m c.popd/\CRun con m T (c.popd.doC con m k s)/\(c.popd.doC con m k s).mu<c.mu:=by
 obtain⟨k,hk⟩:∃k,c.work.getLast? = some k:=by
  cases hg:c.work.getLast? with
  |none=>exact absurd (qBb.1 hg) hw
  |some k=>exact⟨k,rfl⟩
 have e:=zHX hk
 obtain⟨s,hat,h0,c1,c2,hx,hs⟩:=zPA him h.inv (h.seen hb) e hb
 have hr:c.round con m=c.popd.doC con m k s:=by
  unfold CK.round CK.lastW CK.stAt
  rw[hk]
  show CK.doC con m c.popd k (((c.at_[k.toNat]?).getD none).getD ⟨0,0,[]⟩)=_
  rw[hat];rfl
 have hmu:=zNr con m (c:=c) hw
 rw[hr]at hmu
 refine⟨k,s,e,h0,zIO h.inv hat,hat,c1,⟨c2,hs,fun _=>hx.at_ 0 _ (h.zero hb),fun A hg=>?_,?_⟩,hmu⟩
 ·have ha:=h.ag A hg
  exact zZy hg him c1 ⟨ha.at_,ha.has,ha.nb⟩ h0 hat
 ·rw[<-h.tw]
  have hpos:0<c.mu:=by omega
  obtain⟨n,hn⟩:∃n,c.mu=n+1:=⟨c.mu-1,by omega⟩
  rw[hn,CK.run,if_neg (by rintro(h|h);rw[hb]at h;cases h;exact hw h),hr]
  exact zNp con m _ _ _ (qAN _) (by omega)
theorem CRun.done{T c:CK}(h:CRun con m T c)(hd:c.bad=true\/c.work=[]): T=c:=by
 rw[<-h.tw]
 cases hn:c.mu with
 |zero=>rfl
 |succ n=>rw[CK.run,if_pos hd]
theorem CRun.ok{T:CK}(h:CRun con m T T)(hd:T.bad=true\/T.work=[]): T.bad=false↔zP6 con m:=by
 constructor
 ·intro hb
  rcases hd with h1|h1
  ·rw[hb]at h1;cases h1
  ·exact(h.seen hb).good h.inv h1 (h.zero hb)
 ·intro ⟨A,hg⟩
  exact(h.ag A hg).nb
def ck0(m:Img): CK:=⟨List.replicate m.code.length none,[],[],false⟩
def ck1(m:Img): CK:=(ck0 m).come 0 ⟨-1,0,[]⟩
def ckT(con:List UInt8->Bool)(m:Img): CK:=CK.run con m (ck1 m).mu (ck1 m)
theorem zMG{m:Img}{k:Nat}{s:CS}: ¬(ck0 m).at_[k]?=some (some s):=by
 intro h
 have h:(List.replicate m.code.length (none:Option CS))[k]?=some (some s):=h
 rw[List.getElem?_replicate]at h
 split at h
 ·injection h with h;cases h
 ·cases h
theorem zNM(m:Img): CInv m (ck0 m):=⟨by simp[ck0],fun k s h=>absurd h zMG,fun k s h=>absurd h zMG,fun f h=>absurd rfl h,fun k h=>by simp[ck0]at h⟩
theorem zRi(con:List UInt8->Bool)(m:Img): CRun con m (ckT con m) (ck1 m):=by
 obtain⟨h1,h2,h3⟩:=zHs (zNM m) (k:=0) (s:=⟨-1,0,[]⟩) (qA6 0) (.inl rfl) ⟨List.Pairwise.nil,by simp[fullV],qA6 0⟩
 refine⟨h2,fun hb k s hk hw=>?_,fun hb=>h3 hb,fun A hg=>?_,rfl⟩
 ·exact absurd (h1.work k s hk hw).1 zMG
 ·exact zLB hg (zNM m) ⟨fun k s h=>absurd h zMG,fun f h=>absurd rfl h,rfl⟩ hg.zero
end Go.Vm
namespace Go.Proofs.YtcagoomibpcdlaaGreatDoor
open Go.Sx
attribute [local irreducible] zAN Program.underlying Ylds zA9 alex zB3 zBf awp zAi zCC zCB zAU zAz zBj zBB zBr zB2 zB8 zBi
end Go.Proofs.YtcagoomibpcdlaaGreatDoor
namespace Go.Vm
variable {con:List UInt8->Bool}{m:Img}
def cnt(c:CK): Nat:=(c.at_.filter Option.isSome).length
theorem zKM(c:CK): cnt c<=c.at_.length:=qBB _ _
structure CB(c:CK): Prop where
 hgt:∀(q:Nat) (x:CS),c.at_[q]?=some (some x)->x.height<=cnt c/\x.tries.length<=cnt c
 wrk:c.work.length<=cnt c
 has:∀f,getI c.has f<=1048577
theorem zNI{l:List (Option CS)}: ∀{k:Nat} {s:CS},l[k]?=some none->((l.set k (some s)).filter Option.isSome).length=(l.filter Option.isSome).length+1:=by
 induction l with
 |nil=>intro k s h;simp at h
 |cons a r ih =>
  intro k s h
  cases k with
  |zero =>
   simp at h;subst h
   simp
  |succ k =>
   simp at h
   have:=ih (s:=s) h
   rw[List.set_cons_succ,qBI,qBI]
   split
   ·rw[qAS,qAS];omega
   ·exact this
theorem zLA{c:CK}(hb:CB c){k:Int}{s:CS}(h1:s.height<=cnt c+1)(h2:s.tries.length<=cnt c+1): CB (c.come k s)/\cnt c<=cnt (c.come k s):=by
 unfold CK.come
 split
 ·exact⟨⟨hb.hgt,hb.wrk,hb.has⟩,qAN _⟩
 ·rename_i h
  have hc:cnt { c with at_:=c.at_.set k.toNat (some s),work:=c.work++[k] }=cnt c+1:=zNI h
  refine⟨⟨fun q x hq=>?_,?_,hb.has⟩,by rw[hc];omega⟩
  ·rw[hc]
   change (c.at_.set k.toNat (some s))[q]?=some (some x)at hq
   rw[qAT]at hq
   split at hq
   ·split at hq
    ·injection hq with hq;injection hq with hq;subst hq
     exact⟨by push_cast;omega,h2⟩
    ·cases hq
   ·have:=hb.hgt q x hq
    exact⟨by push_cast;omega,by omega⟩
  ·rw[hc]
   show (c.work++[k]).length<=_
   rw[qAE,qAy]
   have:=hb.wrk;omega
 ·split
  ·exact⟨hb,qAN _⟩
  ·exact⟨⟨hb.hgt,hb.wrk,hb.has⟩,qAN _⟩
theorem zK9{s:CS}: ∀(l:List Int) {c:CK},CB c->s.height<=cnt c+1->s.tries.length<=cnt c+1->CB (l.foldl (fun c t=>c.come t s) c)/\cnt c<=cnt (l.foldl (fun c t=>c.come t s) c)
 |[],_,hb,_,_=>⟨hb,qAN _⟩
 |t::r,c,hb,h1,h2=>by
  obtain⟨h3,h4⟩:=zLA hb (k:=t) h1 h2
  obtain⟨h5,h6⟩:=zK9 (s:=s) r h3 (by omega) (by omega)
  exact⟨h5,qA2 h4 h6⟩
theorem zYu{c:CK}(hb:CB c){k n:Int}(hn:n<=1048576): CB { c with has:=putI c.has k (n+1) } :=
 ⟨hb.hgt,hb.wrk,fun f=>by
  show getI (putI c.has k (n+1)) f<=_
  rw[zIq]
  split
  ·omega
  ·exact hb.has f⟩
theorem zUT{c:CK}(hb:CB c){k n:Int}(hn:n<=1048576): CB (c.begin k n):=by
 unfold CK.begin
 split
 ·exact⟨hb.hgt,hb.wrk,hb.has⟩
 ·exact(zLA (zYu hb hn) (k:=k) (s:=⟨k,1,[]⟩) (by show (1:Int)<=_;omega) (by simp)).1
theorem zGp{c:CK}(hb:CB c){s:CS}{fl a b:Int}{h:Bool}{l:List Int}(h1:s.height-a+b<=cnt c+1)(h2:s.tries.length<=cnt c+1): CB (c.stepC s fl a b h l)/\cnt c<=cnt (c.stepC s fl a b h l):=by
 unfold CK.stepC
 split
 ·exact⟨⟨hb.hgt,hb.wrk,hb.has⟩,qAN _⟩
 ·exact zK9 l hb h1 h2
theorem zQv{c:CK}(hb:CB c): CB c.popd:=⟨hb.hgt,by show c.work.dropLast.length<=cnt c;rw[qAt];have:=hb.wrk;omega,hb.has⟩
theorem zYz{i:Ins}{v:VS}: 0<=(eff con m i v).puts/\(eff con m i v).puts<=1:=by
 have ite:∀{a b:Eff} {c:Prop} [Decidable c],(0<=a.puts/\a.puts<=1)->(0<=b.puts/\b.puts<=1)->0<=(if c then a else b).puts/\(if c then a else b).puts<=1:=fun ha hb=>by split <;> assumption
 unfold eff;dsimp only
 repeat' (with_reducible refine ite ?_ ?_)
 all_goals (dsimp only;omega)
theorem zYy{i:Ins}{v:VS}(ha:0<=i.a/\i.a<=1048576)(hb:0<=i.b/\i.b<=1048576): 0<=(eff con m i v).takes/\(eff con m i v).takes<=1048577:=by
 have ite:∀{a b:Eff} {c:Prop} [Decidable c],(0<=a.takes/\a.takes<=1048577)->(0<=b.takes/\b.takes<=1048577)->0<=(if c then a else b).takes/\(if c then a else b).takes<=1048577:=fun ha hb=>by split <;> assumption
 have ht:0<=takes i.a/\takes i.a<=1048577:=by unfold takes;split;omega;split <;> omega
 unfold eff;dsimp only
 repeat' (with_reducible refine ite ?_ ?_)
 all_goals first|exact ht|(dsimp only;omega)
theorem zZx(him:ImgOk m){c:CK}(hb:CB c){k:Int}{s:CS}(_hk:0<=k)(hl:k.toNat<m.code.length)(hat:c.at_[k.toNat]?=some (some s)): CB (c.doC con m k s):=by
 obtain⟨i,hi⟩:∃i,m.code[k.toNat]?=some i:=⟨_,qAB hl⟩
 have hg:m.code.getD k.toNat default=i:=by rw[qAD,hi];rfl
 obtain⟨o0,o20,a0,a1,b0,b1,hgo⟩:=him.ins i (qAK hi)
 obtain⟨h1,h2⟩:=hb.hgt _ _ hat
 unfold CK.doC
 dsimp only
 rw[hg]
 split
 ·split
  ·exact⟨hb.hgt,hb.wrk,hb.has⟩
  ·exact(zGp hb (s:={ s with tries:=s.tries.dropLast }) (by show s.height-0+0<=_;omega) (by show s.tries.dropLast.length<=_;rw[qAt];omega)).1
 ·split
  ·obtain⟨h3,h4⟩:=zGp hb (s:=s) (fl:=zA6 (fullV c s)) (a:=0) (b:=1) (h:=true) (l:=[i.a]) (by omega) (by omega)
   exact(zLA h3 (k:=k+1) (s:=⟨s.of,s.height,s.tries++[s.height]⟩) (by show s.height<=_;omega) (by show (s.tries++[s.height]).length<=_;rw[qAE,qAy];omega)).1
  ·split
   ·obtain⟨h3,h4⟩:=zGp hb (s:=s) (fl:=zA6 (fullV c s)) (a:=i.b) (b:=1) (h:=true) (l:=[k+1]) (by omega) (by omega)
    exact zUT h3 b1
   ·have p1:=zYz (con:=con) (m:=m) (i:=i) (v:=fullV c s)
    have p2:=zYy (con:=con) (m:=m) (i:=i) (v:=fullV c s) ⟨a0,a1⟩ ⟨b0,b1⟩
    exact(zGp hb (by omega) (by omega)).1
theorem zLS{c:CK}(hc:CInv m c){s:CS}{fl tk pt:Int}{h:Bool}(l:List Int)(h0:∀t∈l,0<=t)(hs:s.of = -1\/(0<=s.of/\0<getI c.has s.of))(ht:TrOk (fullV c s))(hf:zA6 (fullV c s)<=fl\/zA6 (fullV c s)<=s.height-tk)(hp:0<=pt): CInv m (c.stepC s fl tk pt h l) :=
 (zF0 (tw:=l) hc h0 hs ht hf hp).2.1
end Go.Vm
