import Derived.Test.YtcagoomibpcdlaaGreatDoorMAR
set_option maxHeartbeats 16000000
namespace Go.Proofs.YtcagoomibpcdlaaGreatDoor
section
open _root_.Go.Proofs.Tryz
open Go.Sx
attribute [local irreducible] zAL Program.underlying Ylds zA2 alex zBZ zBP awp zAb zBh zBg zAW zAp zBR zAr zBV zBY zBe zBM
def idxT(A:List (List UInt8))(b:List UInt8): Int:=if b∈A then((A.takeWhile fun x=>decide (x≠b)).length:Int)else -1
theorem zXr{A:List (List UInt8)}{b:List UInt8}{i:Nat}(h0:∀j,j<i->A[j]?≠some b)(h1:A[i]?=some b): idxT A b=i:=by
 have hm:b∈A:=qAF h1
 rw[idxT,if_pos hm]
 congr 1
 induction A generalizing i with
 |nil=>simp at h1
 |cons x r ih =>
  cases i with
  |zero=>simp at h1;simp[List.takeWhile,h1]
  |succ i =>
   have hx:x≠b:=by have:=h0 0 (by omega);simpa using this
   rw[List.takeWhile_cons,if_pos (by simpa using hx),qAN]
   rw[ih (i:=i) (fun j hj=>by have:=h0 (j+1) (by omega);simpa using this) (by simpa using h1) (qAF (by simpa using h1))]
theorem zOX{A:List (List UInt8)}{b:List UInt8}(h:b∉A): idxT A b = -1:=if_neg h
theorem zWA(A:List (List UInt8))(b:List UInt8)(hL:A.length<=2000000): zAb prog 204 [strs A,str b] (i64 (idxT A b)):=by
 refine zAj func204 rfl ntmps204 results204 rfl ?_
 intro wb St0
 repeat' first|apply en_n|apply zAE|apply zAA|apply zAB|apply w0|refine ayA rfl ?_|apply zAO
 refine zBA (α:=Nat) (fun i=>i<=A.length/\∀j,j<i->A[j]?≠some b) (fun i=>[(0,.d (strs A)),(1,.d (str b)),(7,.d (i64 (A.length:Int))),(8,.d (i64 (i:Int)))]) (fun _=>[]) (fun i=>A.length-i) 0 ⟨qAQ _,by omega⟩
   (zAU (Le_cons rfl (Le_cons rfl (Le_d rfl (by first|rfl|simp) (Le_all rfl)))) zAe rfl rfl) ?_
 rintro i ⟨hi1,hi2⟩
 repeat' first|apply en_n|apply zAE|apply zAA|apply zAB|apply w0|exact zS4 rfl rfl|(apply aI (hd:=rfl);(first|exact zA0 rfl|exact zBX rfl rfl rfl|exact Co_nn rfl);exact rfl;(with_reducible exact zEn);exact fun _=>rfl;rotate_left;intro v hv;rotate_right)|refine ayA rfl ?_|apply ay (hd:=rfl)|exact zES rfl rfl|refine zBp rfl rfl ?_|(apply zBO;exact rfl;all_goals intro hb)|apply zAO|apply zAP|apply zAM|apply zBH|apply en_r|apply en_e|apply eb_n|apply eb_r|apply eb_e|apply zAS|refine res1 rfl ?_
 ·omega
 ·subst hb;rw[zXr hi2 hv]
 ·omega
 ·refine⟨i+1,⟨by omega,fun j hj=>?_⟩,by omega,zAU (Le_all rfl) zAe rfl rfl⟩
  rcases qAR j i with h1|h1
  ·exact hi2 j h1
  ·rw[show j=i by omega];intro h2;exact hb (qBA (h2.symm.trans hv))
 ·rw[zOX];intro h1
  obtain⟨j,hj,h2⟩:=List.getElem_of_mem h1
  exact hi2 j (by omega) (by rw[qAB hj,h2])
theorem zPS(A:List (List UInt8))(b:List UInt8)(hL:A.length<=2000000): zAb prog 197 [strs A,str b] (bl (A.contains b)):=by
 refine zAj func197 rfl ntmps197 results197 rfl ?_
 intro wb St0
 repeat' first|apply en_n|apply zAE|apply zAA|apply zAB|apply w0|(apply zAR (hb:=zXz) (hc:=zWA A b hL))|refine ayA rfl ?_|apply ay (hd:=rfl)|exact zJg rfl rfl|apply zAM|apply zAS|refine res1 rfl ?_|exact zAH|refine zAN rfl ?_
 refine zDn ?_
 by_cases h:b∈A
 ·rw[List.contains_iff_mem.2 h,idxT,if_pos h];exact decide_eq_true (by omega)
 ·rw[show A.contains b=false by simpa using h,zOX h];rfl
theorem zWI: zAb prog 198 [] (strs kws):=by
 refine zAj func198 rfl ntmps198 results198 rfl ?_
 intro wb St0
 exact yU
theorem zZQ(s:List UInt8): zAb prog 180 [str s] (bl (zSe s)):=by
 refine zAj func180 rfl ntmps180 results180 rfl ?_
 intro wb St0
 exact yU
theorem zRv{η:List Ob}{σ:Sl}: ∀L:List (List UInt8),CoL η σ (L.map fun l=>Operand.const (.string ⟨l.toArray⟩)) (L.map str)
 |[]=>zAH
 |_::r=>zAN rfl (zRv r)
theorem zTt: zAb prog 195 [] (strs kws):=by
 refine zAj func195 rfl ntmps195 results195 rfl ?_
 intro wb St0
 exact yR
theorem zaW(s:List UInt8): zAb prog 176 [str s] (bl (zSe s)):=by
 refine zAj func176 rfl ntmps176 results176 rfl ?_
 intro wb St0
 repeat' first|apply en_n|apply zAE|apply zAA|apply zAB|apply w0|(apply zAR (hb:=zU2) (hc:=zTt))|refine ayA rfl ?_|apply ay (hd:=rfl)|apply zAO|exact zAH
 refine zBA (α:=Nat) (fun i=>i<=kws.length/\∀j,j<i->kws[j]?≠some s) (fun i=>[(0,.d (str s)),(3,.d (strs kws)),(4,.d (i64 (i:Int)))]) (fun _=>[]) (fun i=>kws.length-i) 0 ⟨qAQ _,by omega⟩
   (zAU (Le_all rfl) zAe rfl rfl) ?_
 rintro i ⟨hi1,hi2⟩
 have hk:kws.length=25:=rfl
 repeat' first|apply en_n|apply zAE|apply zAA|apply zAB|apply w0|exact zS4 rfl rfl|(apply aI (hd:=rfl);(first|exact zA0 rfl|exact zBX rfl rfl rfl|exact Co_nn rfl);exact rfl;(with_reducible exact zEn);exact fun _=>rfl;rotate_left;intro v hv;rotate_right)|refine ayA rfl ?_|apply ay (hd:=rfl)|exact zES rfl rfl|refine zBp rfl rfl ?_|(apply zBO;exact rfl;all_goals intro hb)|apply zAO|apply zAP|apply zAM|apply zBH|apply en_r|apply en_e|apply eb_n|apply eb_r|apply eb_e|apply zAS|refine res1 rfl ?_
 ·omega
 ·subst hb;exact zDn (List.contains_iff_mem.2 (qAF hv)).symm
 ·omega
 ·refine⟨i+1,⟨by omega,fun j hj=>?_⟩,by omega,zAU (Le_all rfl) zAe rfl rfl⟩
  rcases qAR j i with h1|h1
  ·exact hi2 j h1
  ·rw[show j=i by omega];intro h2;exact hb (qBA (hv.symm.trans h2))
 ·refine zDn ?_
  symm;rw[zSe,<-Bool.not_eq_true];intro h1
  obtain⟨j,hj,h2⟩:=List.getElem_of_mem (List.contains_iff_mem.1 h1)
  exact hi2 j (by omega) (by rw[qAB hj,h2])
def zOU(p:UInt8->Bool)(s:List UInt8): Bool:=allF zHR s&&p (s.getD 0 0) && !zSe s
def zLF(t:Tk): Bool :=
 if t.pos<0 then false
 else if t.kind=1 then decide (t.num=0)&&zOU zGt t.text
 else if t.kind=2 then decide (t.num=0)&&zOU zGu t.text
 else if t.kind=3 then decide (t.text=[])&&decide (W t.num=t.num)
 else if t.kind=4 then decide (t.num=0)&&decide (t.text.length<=200)
 else if t.kind=5 then decide (t.num=0)&&allF zFm t.text && !zSe t.text
 else if t.kind=6 then decide (t.num=0)&&zSe t.text
 else false
theorem zUt(c:UInt8)(h:c.toNat>126): zHR c=false:=by
 simp only[zHR,zGt,zGu,zI1,zcI,<-Bool.decide_or,show ((95:UInt8).toNat:Int)=95 from rfl,show ((39:UInt8).toNat:Int)=39 from rfl]
 rw[decide_eq_false_iff_not];omega
theorem zWu(c:UInt8)(h:c.toNat>126): zFm c=false:=by
 refine zN3 fun j hj e=>?_
 subst e
 have:∀k,k<16->(signL.getD k 0).toNat<=126:=by decide
 have:=this j hj
 omega
theorem zYV{p:UInt8->Bool}{s:List UInt8}(h:allF p s=true): 0<s.length:=by
 cases s with
 |nil=>simp[allF]at h
 |cons=>simp
abbrev Tk.cells(t:Tk): List SV:=[.d (i64 t.kind),.d (str t.text),.d (i64 t.num),.d (i64 t.pos)]
theorem zPL(t:Tk)(f:FuncId)(p:UInt8->Bool)(hb:zAL prog f=true)(hp:∀c,zAb prog f [u8 c] (bl (p c))):
  zAp prog 177 [.clo f [],.ptr 0 0] [.box t.cells] (bl (zOU p t.text)):=by
 have hbf:=hb;clear hb
 refine zCq func177 rfl ntmps177 results177 rfl ?_
 intro wb St0
 repeat' first|apply en_n|apply zAE|apply zAA|apply zAB|apply w0|refine k1u (hd:=rfl) rfl rfl ?_|(apply zVs (hb:=hbf) (hc:=hp (t.text.getD 0 0));exact rfl)|exact qcA [] [] zY2 (zZB _ zHR zXw zXq zUt t.text)|(apply zAR (hb:=zY3) (hc:=zZQ t.text))|refine ayA rfl ?_|apply ay (hd:=rfl)|refine w1 rfl rfl ?_|(apply g1;exact rfl;exact rfl;all_goals intro hb)|apply zAM|apply zAS|refine res1 rfl ?_|exact zAH|refine zAN rfl ?_
 ·have:=zYV hb
  exact zLz (i:=0) rfl rfl (by with_reducible exact ustr) ⟨by omega,by omega⟩
 all_goals exact zDn (by simp only[zOU, *];first|rfl|simp)
theorem zYg(t:Tk): zAb prog 163 [t.av] (bl (zLF t)):=by
 refine zAj func163 rfl ntmps163 results163 rfl ?_
 intro wb St0
 repeat' first|apply en_n|apply zAE|apply zAA|apply zAB|apply w0|refine kU (hd:=rfl) rfl rfl ?_|refine k1u (hd:=rfl) rfl rfl ?_|refine k0u (hd:=rfl) rfl rfl ?_|(apply zD2;exact rfl;with_reducible exact ustr)|exact zRi rfl rfl|exact qcA [0] [0] zOp (zPL t _ zGt zRB zQd)|exact qcA [0] [0] zOp (zPL t _ zGu zRC zRD)|exact qcA [] [] zY2 (zZB _ zFm zbK zaG zWu t.text)|(apply zAR (hb:=zY3) (hc:=zZQ t.text))|exact ycA zFw (zFp t.num)|refine aBoA ?_|refine ayA rfl ?_|apply ay (hd:=rfl)|exact zES rfl rfl|exact zH7 rfl rfl|exact zFC rfl rfl|exact zJf rfl rfl|exact zKE rfl|exact zME rfl|refine w1 rfl rfl ?_|(apply gD;exact rfl;exact rfl;all_goals intro hb)|(apply g1;exact rfl;exact rfl;all_goals intro hb)|(apply zBO;exact rfl;all_goals intro hb)|refine zAJ rfl ?_|refine zAI rfl ?_|apply zAO|apply zAP|apply zAM|refine awDA ?_|apply en_r|apply eb_n|apply eb_r|apply zAS|refine res1 rfl ?_|exact zAH|refine zAN rfl ?_
 all_goals exact zDn (by simp_all [zLF] <;> (rw[show decide (t.pos<0)=false from decide_eq_false (by omega),Bool.not_false,Bool.true_and,decide_eq_decide];omega))
end
section
open _root_.Go.Proofs.Tryz
open Go.Sx Go.RowKit
theorem zUP: zCj prog 221=some [(0,1),(1,1),(2,1),(3,1)]:=by kernel_rfl
theorem zbL: zAL prog 152=true:=by kernel_rfl
def conF(s:List UInt8): Bool:=zLF ⟨2,s,0,0⟩
end
end Go.Proofs.YtcagoomibpcdlaaGreatDoor
namespace Go.Vm
inductive Rf where
 |n (v:Int)
 |b (i:Nat)
 deriving DecidableEq,Inhabited
structure Thing where
 kind:Int
 tag:Int
 text:List UInt8
 parts:List Rf
 deriving Inhabited
structure Cn where
 isText:Bool
 num:Int
 text:List UInt8
 deriving DecidableEq,Inhabited
structure Ins where
 op:Int
 a:Int
 b:Int
 deriving DecidableEq,Inhabited
structure Img where
 pool:List Cn
 code:List Ins
structure Cl where
 at_:Int
 base:Int
 fun_:Rf
 deriving Inhabited
structure Ty where
 c:Cl
 height:Int
 calls:Int
 deriving Inhabited
structure St where
 words:Int
 used:Int
 all:List Thing
 ly:List Nat
 stack:List Rf
 c:Cl
 calls:List Cl
 tries:List Ty
 fin:Int
 num:Int
 out:List (List UInt8)
 steps:Int
def Wn(n:Int): Int:=(n+4611686018427387904)%9223372036854775808-4611686018427387904
def numR(n:Int): Rf:=.n (Wn n)
def Thing.need(o:Thing): Nat:=if o.kind=4 then 1+(o.text.length+7) / 8 else 1+o.parts.length
def zB6(t:List UInt8): Thing:=⟨4,t.length,t,[]⟩
def addN: List Nat->List Rf->List Nat
 |out,[]=>out
 |out,.n _::r=>addN out r
 |out,.b i::r=>if i∈out then addN out r else addN (out++[i]) r
def zHM(all:List Thing): Nat->List Nat->Nat->List Nat
 |0,out,_=>out
 |f+1,out,k=>match out[k]? with
  |none=>out
  |some i=>zHM all f (addN out (all.getD i default).parts) (k+1)
def zDd(all:List Thing)(roots:List Rf): List Nat:=zHM all (all.length+1) (addN [] roots) 0
def sumN(all:List Thing)(l:List Nat): Nat:=(l.map fun i=>(all.getD i default).need).sum
def live(all:List Thing)(roots:List Rf): Nat:=sumN all (zDd all roots)
def St.stop(s:St)(e:Int): St:={ s with fin:=e }
def St.top(s:St)(k:Nat): Rf:=s.stack.getD (s.stack.length-1-k) (.n 0)
def St.instead(s:St)(n:Nat)(r:Rf): St:={ s with stack:=s.stack.take (s.stack.length-n)++[r] }
def St.numI(s:St)(n:Nat)(x:Int): St:=s.instead n (numR x)
def St.high(s:St)(more:Int): Bool:=decide ((s.stack.length:Int)+more>4000)
def St.roots(s:St): List Rf:=s.stack++s.c.fun_::(s.calls.map (·.fun_)++s.tries.map (·.c.fun_))
def St.gc(s:St)(n:Nat): St:=if s.words-s.used<(n:Int)then { s with used:=(live s.all s.roots:Int),ly:=zDd s.all s.roots }else s
def St.new(s:St)(o:Thing)(n:Nat): St:=({ s with used:=s.used+(o.need:Int),all:=s.all++[o],ly:=s.ly++[s.all.length] }:St).instead n (.b s.all.length)
def St.alloc(s:St)(o:Thing)(n:Nat): St:=if s.words-s.used<(o.need:Int)then s.stop 5 else s.new o n
def St.block(s:St)(o:Thing)(n:Nat): St:=if s.high (1-n)then s.stop 6 else(s.gc o.need).alloc o n
def St.partsT(s:St)(n:Nat): List Rf:=s.stack.drop (s.stack.length-n)
def St.obj(s:St): Rf->Thing
 | .n _=>default
 | .b i=>s.all.getD i default
def St.of(s:St)(r:Rf)(k:Int): Bool:=match r with
 | .n _=>false
 | .b i=>decide ((s.all.getD i default).kind=k)
def St.raise(s:St)(n:Int): St:=match s.tries.getLast? with
 |none=>{ s with num:=n,fin:=2 }
 |some t=>{ s with tries:=s.tries.dropLast,calls:=s.calls.take t.calls.toNat,c:=t.c,stack:=s.stack.take t.height.toNat++[numR n] }
def St.app(s:St)(tail:Bool): St :=
 let f:=s.top 1
 let a:=s.top 0
 if !s.of f 2 then s.stop 4
 else if tail then { s with stack:=s.stack.take s.c.base.toNat++[a],c:=⟨(s.obj f).tag,s.c.base,f⟩ }
 else if s.calls.length>=1000 then s.stop 6
 else { s with calls:=s.calls++[s.c],stack:=s.stack.take (s.stack.length-2)++[a],c:=⟨(s.obj f).tag,(s.stack.length:Int)-2,f⟩ }
def St.ints(s:St)(p:Int)(a b:Int): St :=
 if p=0 then s.numI 2 (a+b)else if p=1 then s.numI 2 (a-b)else if p=2 then s.numI 2 (a*b)
 else if p=3 then(if b=0 then s.raise (-2)else s.numI 2 (a.tdiv b))
 else if p=4 then(if b=0 then s.raise (-2)else s.numI 2 (a.tmod b))
 else if p=5 then s.numI 2 (if a=b then 1 else 0)
 else s.numI 2 (if a<b then 1 else 0)
def St.put(s:St)(t:List UInt8): St:={ s with out:=s.out++[t] }
def takes(p:Int): Int:=if p<0\/p>13 then 0 else if p<8\/p=11 then 2 else 1
def St.prim(shw:Int->List UInt8)(s:St)(p:Int): St :=
 let a:=s.top ((takes p).toNat-1)
 let b:=s.top 0
 if p<7 then match a,b with
  | .n x,.n y=>s.ints p x y
  |_,_=>s.stop 4
 else if p=7 then
  if !s.of a 4 || !s.of b 4 then s.stop 4
  else let t:=(s.obj a).text++(s.obj b).text
   if t.length>200 then s.raise (-3)else s.block (zB6 t) 2
 else if p=8 then(if !s.of a 4 then s.stop 4 else s.numI 1 (s.obj a).text.length)
 else if p=13 then(if !s.of a 4 then s.stop 4 else(s.put (s.obj a).text).numI 1 0)
 else if p=9 then s.block ⟨3,0,[],s.partsT 1⟩ 1
 else if p=10 then(if !s.of a 3 then s.stop 4 else s.instead 1 ((s.obj a).parts.getD 0 default))
 else if p=11 then
  match a with
  | .n _=>s.stop 4
  | .b i=>if(s.all.getD i default).kind≠3 then s.stop 4
   else({ s with all:=s.all.set i { s.all.getD i default with parts:=(s.all.getD i default).parts.set 0 b } }:St).numI 2 0
 else match a with
  | .n x=>s.put (shw x)
  | .b _=>s.stop 4
def St.push(s:St)(r:Rf): St:=if s.high 1 then s.stop 6 else s.instead 0 r
def St.goto(s:St)(a:Int): St:={ s with c:={ s.c with at_:=a } }
def step(shw:Int->List UInt8)(m:Img)(s0:St): St :=
 let i:=m.code.getD s0.c.at_.toNat default
 let s:=s0.goto (s0.c.at_+1)
 if i.op=0 then s.stop 1
 else if i.op=1 then
  let k:=m.pool.getD i.a.toNat default
  if k.isText then s.block (zB6 k.text) 0 else s.push (numR k.num)
 else if i.op=2 then s.push (s.top i.a.toNat)
 else if i.op=3 then s.push ((s.obj s.c.fun_).parts.getD i.a.toNat default)
 else if i.op=4 then s.push s.c.fun_
 else if i.op=5 then { s with stack:=s.stack.take (s.stack.length-i.a.toNat) }
 else if i.op=6 then s.instead (i.a.toNat+1) (s.top 0)
 else if i.op=7 then s.app false
 else if i.op=8 then s.app true
 else if i.op=9 then { s with stack:=s.stack.take s.c.base.toNat++[s.top 0],c:=(s.calls.getLast?).getD default,calls:=s.calls.dropLast }
 else if i.op=10 then s.block ⟨1,i.a,[],s.partsT i.b.toNat⟩ i.b.toNat
 else if i.op=18 then s.block ⟨2,i.a,[],s.partsT i.b.toNat⟩ i.b.toNat
 else if i.op=12 then s.prim shw i.a
 else if i.op=17 then { s with tries:=s.tries++[⟨{ s.c with at_:=i.a },s.stack.length,s.calls.length⟩] }
 else if i.op=14 then { s with tries:=s.tries.dropLast }
 else if i.op=15 then s.goto i.a
 else
  let r:=s.top 0
  if i.op=11 then
   (if !s.of r 1||decide (i.a>=((s.obj r).parts.length:Int))then s.stop 4 else s.instead 1 ((s.obj r).parts.getD i.a.toNat default))
  else if i.op=19 then
   (if !s.of r 1 then s.stop 4 else if(s.obj r).tag≠i.b then s.goto i.a else s)
  else match r with
   | .b _=>s.stop 4
   | .n x =>
    if i.op=13 then s.raise x
    else if i.op=16 then
     let s:={ s with stack:=s.stack.take (s.stack.length-1) }
     if x=0 then s.goto i.a else s
    else if x≠(m.pool.getD i.b.toNat default).num then s.goto i.a else s
def runS(shw:Int->List UInt8)(m:Img): Nat->St->St
 |0,s=>if s.fin=0 then s.stop 3 else s
 |f+1,s=>if s.fin=0 then runS shw m f (step shw m { s with steps:=s.steps+1 })else s
def start(words:Int): St:=⟨words,0,[],[],[],⟨0,0,.n 0⟩,[],[],0,0,[],0⟩
structure Fol(s t:St): Prop where
 out:s.out <+: t.out
 steps:t.steps=s.steps
 words:t.words=s.words
 fin:(t.fin=s.fin/\t.num=s.num)\/((t.fin=1\/t.fin=4\/t.fin=5\/t.fin=6)/\t.num=s.num)\/t.fin=2
theorem Fol.mk'{s t:St}(h1:t.out=s.out)(h2:t.steps=s.steps)(h3:t.words=s.words)(h4:t.fin=s.fin)(h5:t.num=s.num): Fol s t:=⟨h1▸List.prefix_rfl,h2,h3,.inl ⟨h4,h5⟩⟩
theorem Fol.of{s s' t:St}(h1:s'.out=s.out)(h2:s'.steps=s.steps)(h3:s'.words=s.words)(h4:s'.fin=s.fin)(h5:s'.num=s.num)(h:Fol s' t): Fol s t :=
 ⟨h1▸h.out,h.steps.trans h2,h.words.trans h3,by have:=h.fin;rw[h4,h5]at this;exact this⟩
theorem zIJ(s:St)(e:Int)(h:e=1\/e=4\/e=5\/e=6): Fol s (s.stop e):=⟨List.prefix_rfl,rfl,rfl,.inr (.inl ⟨h,rfl⟩)⟩
theorem zHS(s:St)(n:Nat)(r:Rf): Fol s (s.instead n r):=.mk' rfl rfl rfl rfl rfl
theorem zO6(s:St)(o:Thing)(n:Nat): Fol s (s.block o n):=by
 unfold St.block
 split
 ·exact zIJ s 6 (by simp)
 ·have h:(s.gc o.need).out=s.out/\(s.gc o.need).steps=s.steps/\(s.gc o.need).words=s.words/\(s.gc o.need).fin=s.fin/\(s.gc o.need).num=s.num:=by unfold St.gc;split <;> simp
  refine .of h.1 h.2.1 h.2.2.1 h.2.2.2.1 h.2.2.2.2 ?_
  unfold St.alloc;split
  ·exact zIJ _ 5 (by simp)
  ·exact .mk' rfl rfl rfl rfl rfl
theorem zLI(s:St)(n:Int): Fol s (s.raise n):=by
 unfold St.raise;split
 ·exact⟨List.prefix_rfl,rfl,rfl,.inr (.inr rfl)⟩
 ·exact .mk' rfl rfl rfl rfl rfl
theorem zbm(s:St)(b:Bool): Fol s (s.app b):=by
 unfold St.app;dsimp only
 repeat' split
 all_goals first|exact zIJ s _ (by simp)|exact .mk' rfl rfl rfl rfl rfl
theorem zXp(s:St)(p a b:Int): Fol s (s.ints p a b):=by
 unfold St.ints
 repeat' split
 all_goals first|exact zLI s _|exact zHS s _ _
theorem zab(s:St)(t:List UInt8): Fol s (s.put t):=⟨List.prefix_append _ _,rfl,rfl,.inl ⟨rfl,rfl⟩⟩
theorem zXL(s:St)(r:Rf): Fol s (s.push r):=by
 unfold St.push;split
 ·exact zIJ s _ (by simp)
 ·exact zHS s _ _
theorem zXO(shw:Int->List UInt8)(s:St)(p:Int): Fol s (s.prim shw p):=by
 unfold St.prim;dsimp only
 repeat' split
 all_goals first
  |exact zXp s _ _ _
  |exact zIJ s _ (by simp)
  |exact zLI s _
  |exact zO6 s _ _
  |exact zHS s _ _
  |exact zab s _
  |exact⟨List.prefix_append _ _,rfl,rfl,.inl ⟨rfl,rfl⟩⟩
  |exact .mk' rfl rfl rfl rfl rfl
theorem zUr{u a b:St}{c:Prop}[Decidable c](ha:Fol u a)(hb:Fol u b): Fol u (if c then a else b):=by split <;> assumption
theorem zWo(shw:Int->List UInt8)(m:Img)(s:St): Fol s (step shw m s):=by
 unfold step;dsimp only
 have g:∀{t},Fol (s.goto (s.c.at_+1)) t->Fol s t:=fun h=>.of (s':=s.goto (s.c.at_+1)) rfl rfl rfl rfl rfl h
 refine g ?_
 clear g
 generalize s.goto (s.c.at_+1)=u
 generalize m.code.getD s.c.at_.toNat default=i
 generalize m.pool.getD i.a.toNat default=p1
 generalize m.pool.getD i.b.toNat default=p2
 generalize u.top 0=r
 repeat' (with_reducible refine zUr ?_ ?_)
 all_goals try (cases r <;> dsimp only)
 all_goals repeat' (with_reducible refine zUr ?_ ?_)
 all_goals first
  |exact zIJ _ _ (by simp)
  |exact zO6 _ _ _
  |exact zXL _ _
  |exact zHS _ _ _
  |exact zbm _ _
  |exact zXO _ _ _
  |exact zLI _ _
  |exact .mk' rfl rfl rfl rfl rfl
theorem zQo(shw:Int->List UInt8)(m:Img): ∀(f:Nat) (s:St),s.fin≠0->runS shw m f s=s
 |0,s,h=>by rw[runS,if_neg h]
 |f+1,s,h=>by rw[runS,if_neg h]
theorem zW1(shw:Int->List UInt8)(m:Img)(f:Nat)(s:St)(h:s.fin=0): runS shw m (f+1) s=runS shw m f (step shw m { s with steps:=s.steps+1 }):=by rw[runS,if_pos h]
theorem zF3(x:Nat): ∀(l:List Rf) (out:List Nat),x∈addN out l↔x∈out\/Rf.b x∈l
 |[],out=>by simp[addN]
 | .n v::r,out=>by rw[addN,zF3 x r out];simp
 | .b i::r,out=>by
  rw[addN]
  by_cases h:i∈out
  ·rw[if_pos h,zF3 x r out]
   constructor
   ·rintro(h1|h1)
    ·exact .inl h1
    ·exact .inr (qAi _ h1)
   ·rintro(h1|h1)
    ·exact .inl h1
    ·rcases qBL.1 h1 with h2|h2
     ·injection h2 with h2;subst h2;exact .inl h
     ·exact .inr h2
  ·rw[if_neg h,zF3 x r (out++[i])]
   simp only[qAc,qAM,qBL (b:=Rf.b i),Rf.b.injEq]
   constructor
   ·rintro((h1|h1)|h1)
    ·exact .inl h1
    ·exact .inr (.inl h1)
    ·exact .inr (.inr h1)
   ·rintro(h1|h1|h1)
    ·exact .inl (.inl h1)
    ·exact .inl (.inr h1)
    ·exact .inr h1
theorem zEO: ∀(l:List Rf) (out:List Nat),out.Nodup->(addN out l).Nodup
 |[],_,h=>h
 | .n _::r,out,h=>by rw[addN];exact zEO r out h
 | .b i::r,out,h=>by
  rw[addN]
  by_cases hi:i∈out
  ·rw[if_pos hi];exact zEO r out h
  ·rw[if_neg hi]
   refine zEO r _ (List.nodup_append.2 ⟨h,by simp,?_⟩)
   intro a ha b hb e
   rw[qAM]at hb
   subst hb;subst e;exact hi ha
theorem zF2: ∀(l:List Rf) (out:List Nat),out <+: addN out l
 |[],_=>List.prefix_rfl
 | .n _::r,out=>by rw[addN];exact zF2 r out
 | .b i::r,out=>by
  rw[addN]
  by_cases hi:i∈out
  ·rw[if_pos hi];exact zF2 r out
  ·rw[if_neg hi];exact(List.prefix_append _ _).trans (zF2 r _)
theorem addN_app: ∀(l m:List Rf) (out:List Nat),addN out (l++m)=addN (addN out l) m
 |[],m,out=>rfl
 | .n _::r,m,out=>by rw[qBk,addN,addN,addN_app r m]
 | .b i::r,m,out=>by
  rw[qBk,addN,addN]
  split
  ·exact addN_app r m out
  ·exact addN_app r m _
def Closed(all:List Thing)(l:List Nat): Prop:=∀i∈l,∀j,Rf.b j∈(all.getD i default).parts->j∈l
theorem zPd(f:Nat->Nat): ∀(l m:List Nat),l.Nodup->(∀i∈l,i∈m)->(l.map f).sum<=(m.map f).sum
 |[],_,_,_=>by simp
 |a::r,m,hn,h=>by
  have ha:=h a (by simp)
  rw[List.nodup_cons]at hn
  have h1:=zPd f r (m.erase a) hn.2 fun i hi=>(List.mem_erase_of_ne (fun (e:i=a)=>hn.1 (by rw[<-e];exact hi))).2 (h i (qAi _ hi))
  have h2:=((List.perm_cons_erase ha).map f).sum_nat
  rw[qAr,List.sum_cons]at h2
  rw[qAr,List.sum_cons];omega
theorem nodup_len{l:List Nat}{n:Nat}(h:l.Nodup)(hl:∀i∈l,i<n): l.length<=n:=by
 have:=zPd (fun _=>1) l (List.range n) h (fun i hi=>qBN.2 (hl i hi))
 have e:∀l:List Nat,(l.map fun _=>1).sum=l.length:=fun l=>by induction l <;> simp_all [Nat.add_comm]
 rw[e,e,List.length_range]at this;exact this
theorem zQm{all:List Thing}{S:List Nat}(hS:Closed all S)(hlt:∀i∈S,i<all.length): ∀(f:Nat) (out:List Nat) (k:Nat),out.Nodup->(∀i∈out,i∈S)->k<=out.length->all.length+1<=f+k->
  (∀j i,j<k->out[j]?=some i->∀x,Rf.b x∈(all.getD i default).parts->x∈out)->
  (zHM all f out k).Nodup/\(∀i∈zHM all f out k,i∈S)/\out <+: zHM all f out k/\Closed all (zHM all f out k)
 |0,out,k,hn,hs,hk,hf,hc=>by
  have:=nodup_len hn (fun i hi=>hlt i (hs i hi))
  omega
 |f+1,out,k,hn,hs,hk,hf,hc=>by
  rw[zHM]
  cases ho:out[k]? with
  |none =>
   rw[qBP]at ho
   dsimp only
   refine⟨hn,hs,List.prefix_rfl,fun i hi x hx=>?_⟩
   obtain⟨j,hj⟩:=qA1.1 hi
   exact hc j i (by have:=(qAA.1 hj).1;omega) hj x hx
  |some i =>
   dsimp only
   have hi:i∈out:=qAF ho
   have hpre:=zF2 (all.getD i default).parts out
   have hkl:=(qAA.1 ho).1
   obtain⟨h1,h2,h3,h4⟩:=zQm hS hlt f (addN out (all.getD i default).parts) (k+1) (zEO _ _ hn) (fun x hx=>by
     rcases(zF3 x _ _).1 hx with h|h
     ·exact hs x h
     ·exact hS i (hs i hi) x h) (by have:=hpre.length_le;omega) (by omega) (fun j y hj hy x hx=>by
     rw[zF3]
     have hy':out[j]?=some y:=by
      obtain⟨w,e⟩:=hpre
      rw[<-e,qAI (by omega)]at hy;exact hy
     rcases qAR j k with hjk|hjk
     ·exact .inl (hc j y hjk hy' x hx)
     ·have:j=k:=by omega
      subst this
      rw[ho]at hy';injection hy' with hy';subst hy'
      exact .inr hx)
   exact⟨h1,h2,hpre.trans h3,h4⟩
theorem zOS{all:List Thing}{S:List Nat}{roots:List Rf}(hS:Closed all S)(hlt:∀i∈S,i<all.length)(hr:∀i,Rf.b i∈roots->i∈S):
  (zDd all roots).Nodup/\(∀i∈zDd all roots,i∈S)/\(∀i,Rf.b i∈roots->i∈zDd all roots)/\Closed all (zDd all roots):=by
 obtain⟨h1,h2,h3,h4⟩:=zQm hS hlt (all.length+1) (addN [] roots) 0 (zEO _ _ (by simp)) (fun x hx=>by
  rcases(zF3 x _ _).1 hx with h|h
  ·simp at h
  ·exact hr x h) (qAQ _) (by omega) (fun j i hj=>by omega)
 exact⟨h1,h2,fun i hi=>h3.subset ((zF3 i _ _).2 (.inr hi)),h4⟩
theorem zGd{all:List Thing}{l m:List Nat}(hn:l.Nodup)(h:∀i∈l,i∈m): sumN all l<=sumN all m:=zPd _ l m hn h
structure VS where
 of:Int
 has:Int
 height:Int
 tries:List Int
 deriving DecidableEq
def zGS(con:List UInt8->Bool)(m:Img)(k:Int): Bool:=match m.pool[k.toNat]? with
 |some c=>c.isText&&con c.text
 |none=>false
def zIb(m:Img)(k:Int): Bool:=match m.pool[k.toNat]? with
 |some c=>!c.isText
 |none=>false
structure Eff where
 takes:Int
 puts:Int
 holds:Bool
 behind:Bool
 there:Bool
def eff(con:List UInt8->Bool)(m:Img)(i:Ins)(s:VS): Eff :=
 let fn:=decide (s.of>=0)
 let free:=s.tries.isEmpty
 if i.op=0 then⟨1,0, !fn&&free,false,false⟩
 else if i.op=1 then⟨0,1,decide (i.a<m.pool.length),true,false⟩
 else if i.op=2 then⟨0,1,decide (i.a<s.height),true,false⟩
 else if i.op=3 then⟨0,1,fn&&decide (i.a<s.has),true,false⟩
 else if i.op=4 then⟨0,1,fn,true,false⟩
 else if i.op=5 then⟨i.a,0,true,true,false⟩
 else if i.op=6 then⟨i.a+1,1,true,true,false⟩
 else if i.op=7 then⟨2,1,true,true,false⟩
 else if i.op=8 then⟨2,0,fn&&free,false,false⟩
 else if i.op=9 then⟨1,0,fn&&free,false,false⟩
 else if i.op=10 then⟨i.b,1,zGS con m i.a&&decide (i.b<=8),true,false⟩
 else if i.op=11 then⟨1,1,decide (i.a<=7),true,false⟩
 else if i.op=12 then⟨takes i.a,1,decide (i.a<=13),true,false⟩
 else if i.op=13 then⟨1,0,true,false,false⟩
 else if i.op=14 then⟨0,0, !free,true,false⟩
 else if i.op=15 then⟨0,0,true,false,true⟩
 else if i.op=16 then⟨1,0,true,true,true⟩
 else if i.op=17 then⟨0,0,true,true,false⟩
 else if i.op=18 then⟨i.b,1,true,true,false⟩
 else if i.op=19 then⟨0,0,decide (s.height>=1)&&zGS con m i.b,true,true⟩
 else⟨0,0,decide (s.height>=1)&&zIb m i.b,true,true⟩
def zA1(s:VS): Int:=(s.tries.getLast?).getD 0
def zGs(con:List UInt8->Bool)(m:Img)(at_:Nat)(s:VS): Option (List (Int×VS)) :=
 let i:=m.code.getD at_ default
 let e:=eff con m i s
 if !e.holds||decide (s.height-e.takes<zA1 s)||(e.behind&&decide ((at_:Int)+1>=m.code.length))then none
 else
  let t:VS:={ s with height:=s.height-e.takes+e.puts,tries:=if i.op=14 then s.tries.dropLast else if i.op=17 then s.tries++[s.height]else s.tries }
  some ((if i.op=17 then[(i.a,{ s with height:=s.height+1 })]else[])++(if i.op=18 then[(i.a,⟨i.a,i.b,1,[]⟩)]else[]) ++
   (if e.behind then[((at_:Int)+1,t)]else[])++(if e.there then[(i.a,t)]else[]))
structure Good(con:List UInt8->Bool)(m:Img)(A:Nat->Option VS): Prop where
 zero:A 0=some ⟨-1,0,0,[]⟩
 some_:∀k v,A k=some v->k<m.code.length/\∃l,zGs con m k v=some l/\∀p∈l,0<=p.1/\A p.1.toNat=some p.2
def zR3(con:List UInt8->Bool)(m:Img): Prop:=∃A,Good con m A
def zAc(all:List Thing)(i:Nat): Thing:=all.getD i default
def FunOk(all:List Thing)(r:Rf)(v:VS): Prop:=∃i,r=.b i/\i<all.length/\(zAc all i).kind=2/\(zAc all i).tag=v.of/\((zAc all i).parts.length:Int)=v.has
def Seg(A:Nat->Option VS)(depth:Nat)(c:Cl)(v:VS)(ts:List Ty): Prop :=
 ts.length=v.tries.length/\∀k t h,ts[k]?=some t->v.tries[k]?=some h->
  t.height=c.base+h/\t.calls=(depth:Int)/\t.c.base=c.base/\t.c.fun_=c.fun_/\0<=t.c.at_/\A t.c.at_.toNat=some ⟨v.of,v.has,h+1,v.tries.take k⟩
structure TrOk(v:VS): Prop where
 pw:v.tries.Pairwise (·<=·)
 le:∀h∈v.tries,0<=h/\h<=v.height
 nn:0<=v.height
inductive Fs (A:Nat->Option VS) (all:List Thing):List Cl->Cl->Int->List Ty->Prop where
 |prog {c:Cl} {H:Int} {ts:List Ty} {v:VS} (hb:c.base=0) (ha:0<=c.at_) (hA:A c.at_.toNat=some v) (ho:v.of = -1) (hh:v.height=H) (ht:TrOk v) (hs:Seg A 0 c v ts):Fs A all [] c H ts
 |func {cs:List Cl} {c' c:Cl} {H:Int} {ts' ts:List Ty} {v:VS} (up:Fs A all cs c' (c.base+1) ts') (hup:∀t∈ts',t.height<=c.base) (hb:0<=c.base) (ha:0<=c.at_) (hA:A c.at_.toNat=some v) (ho:0<=v.of) (hf:FunOk all c.fun_ v) (hh:v.height=H-c.base) (ht:TrOk v) (hs:Seg A (cs.length+1) c v ts):Fs A all (cs++[c']) c H (ts'++ts)
structure Here(A:Nat->Option VS)(all:List Thing)(calls:List Cl)(c:Cl)(H:Int)(ts:List Ty)(v:VS)(ts0 ts1:List Ty): Prop where
 app:ts=ts0++ts1
 at_:0<=c.at_
 hA:A c.at_.toNat=some v
 height:v.height=H-c.base
 base:0<=c.base
 tr:TrOk v
 seg:Seg A calls.length c v ts1
 below:∀t∈ts0,t.height<=c.base
 kind:v.of = -1\/(0<=v.of/\FunOk all c.fun_ v)
 same:∀(c2:Cl) (v2:VS) (H2:Int) (ts2:List Ty),c2.base=c.base->c2.fun_=c.fun_->0<=c2.at_->A c2.at_.toNat=some v2->v2.of=v.of->v2.has=v.has->v2.height=H2-c.base->TrOk v2->Seg A calls.length c2 v2 ts2->Fs A all calls c2 H2 (ts0++ts2)
 other:0<=v.of->∀(c2:Cl) (v2:VS) (H2:Int) (ts2:List Ty),c2.base=c.base->0<=c2.at_->A c2.at_.toNat=some v2->0<=v2.of->FunOk all c2.fun_ v2->v2.height=H2-c.base->TrOk v2->Seg A calls.length c2 v2 ts2->Fs A all calls c2 H2 (ts0++ts2)
 back:0<=v.of->∃cs c',calls=cs++[c']/\Fs A all cs c' (c.base+1) ts0
theorem Fs.here{A:Nat->Option VS}{all:List Thing}{calls:List Cl}{c:Cl}{H:Int}{ts:List Ty}(h:Fs A all calls c H ts): ∃v ts0 ts1,Here A all calls c H ts v ts0 ts1:=by
 cases h with
 |prog hb ha hA ho hh ht hs =>
  rename_i v
  refine⟨v,[],ts,?_⟩
  exact { app:=rfl,at_:=ha,hA:=hA,height:=by omega,base:=by omega,tr:=ht,seg:=hs,below:=fun t ht=>by simp at ht,kind:=.inl ho,
          same:=fun c2 v2 H2 ts2 e1 e2 e3 e4 e5 e6 e7 e8 e9=>.prog (by omega) e3 e4 (by omega) (by omega) e8 e9,
          other:=fun c=>by omega,back:=fun c=>by omega }
 |func up hup hb ha hA ho hf hh ht hs =>
  rename_i cs c' ts' ts1 v
  refine⟨v,ts',ts1,?_⟩
  have hl:(cs++[c']).length=cs.length+1:=by simp
  exact { app:=rfl,at_:=ha,hA:=hA,height:=hh,base:=hb,tr:=ht,seg:=by rw[hl];exact hs,below:=hup,kind:=.inr ⟨ho,hf⟩,
          same:=fun c2 v2 H2 ts2 e1 e2 e3 e4 e5 e6 e7 e8 e9=>.func (by rw[e1];exact up) (by rw[e1];exact hup) (by omega) e3 e4 (by omega) (by
           obtain⟨i,h1,h2,h3,h4,h5⟩:=hf
           exact⟨i,by rw[e2];exact h1,h2,h3,by rw[h4,e5],by rw[h5,e6]⟩) (by omega) e8 (by rw[hl]at e9;exact e9),
          other:=fun _ c2 v2 H2 ts2 e1 e3 e4 e5 e6 e7 e8 e9=>.func (by rw[e1];exact up) (by rw[e1];exact hup) (by omega) e3 e4 e5 e6 (by omega) e8 (by rw[hl]at e9;exact e9),
          back:=fun _=>⟨cs,c',rfl,up⟩ }
def zPQ(all all':List Thing): Prop:=all.length<=all'.length/\∀i,i<all.length->(zAc all' i).kind=(zAc all i).kind/\(zAc all' i).tag=(zAc all i).tag/\(zAc all' i).parts.length=(zAc all i).parts.length
theorem FunOk.grown{all all':List Thing}{r:Rf}{v:VS}(g:zPQ all all')(h:FunOk all r v): FunOk all' r v:=by
 obtain⟨i,h1,h2,h3,h4,h5⟩:=h
 obtain⟨g1,g2,g3⟩:=g.2 i h2
 exact⟨i,h1,qAa h2 g.1,g1.trans h3,g2.trans h4,by rw[g3];exact h5⟩
theorem Fs.grown{A:Nat->Option VS}{all all':List Thing}(g:zPQ all all'){calls:List Cl}{c:Cl}{H:Int}{ts:List Ty}(h:Fs A all calls c H ts): Fs A all' calls c H ts:=by
 induction h with
 |prog hb ha hA ho hh ht hs=>exact .prog hb ha hA ho hh ht hs
 |func up hup hb ha hA ho hf hh ht hs ih=>exact .func ih hup hb ha hA ho (hf.grown g) hh ht hs
theorem zJF{α:Type}{l:List α}{x:α}(h:l.getLast? = some x): l=l.dropLast++[x]:=by
 obtain⟨r,rfl⟩:=List.getLast?_eq_some_iff.1 h;simp
theorem Seg.raise{A:Nat->Option VS}{d:Nat}{c:Cl}{v:VS}{ts:List Ty}{t:Ty}(hs:Seg A d c v ts)(ht:TrOk v)(hl:ts.getLast? = some t):
  ∃h,v.tries=v.tries.dropLast++[h]/\0<=h/\h<=v.height/\t.height=c.base+h/\t.calls=d/\t.c.base=c.base/\t.c.fun_=c.fun_/\0<=t.c.at_/\A t.c.at_.toNat=some ⟨v.of,v.has,h+1,v.tries.dropLast⟩/\TrOk ⟨v.of,v.has,h+1,v.tries.dropLast⟩/\Seg A d t.c ⟨v.of,v.has,h+1,v.tries.dropLast⟩ ts.dropLast:=by
 have e:=zJF hl
 have hne:v.tries≠[]:=fun c=>by have:=hs.1;rw[c,e]at this;simp at this
 obtain⟨h,hh⟩:∃h,v.tries.getLast? = some h:=by
  cases hg:v.tries.getLast? with
  |none=>rw[qBa]at hg;exact absurd hg hne
  |some h=>exact⟨h,rfl⟩
 have e2:=zJF hh
 have hln:ts.dropLast.length=v.tries.dropLast.length:=by rw[qAy,qAy,hs.1]
 have hk1:ts[ts.dropLast.length]?=some t:=by
  conv=>lhs;rw[e]
  simp
 have hk2:v.tries[ts.dropLast.length]?=some h:=by
  rw[hln];conv=>lhs;rw[e2]
  simp
 obtain⟨h1,h2,h3,h4,h5,h6⟩:=hs.2 _ t h hk1 hk2
 have hm:=ht.le h (qAF hk2)
 have htk:v.tries.take ts.dropLast.length=v.tries.dropLast:=by rw[hln,qAy,qBF]
 rw[htk]at h6
 have hpw:=ht.pw
 rw[e2,List.pairwise_append]at hpw
 refine⟨h,e2,hm.1,hm.2,h1,h2,h3,h4,h5,h6,⟨hpw.1,fun x hx=>⟨(ht.le x ((qBb _ hx))).1,?_⟩,by show (0:Int)<=h+1;omega⟩,hln,fun k t' h' hk hk'=>?_⟩
 ·have:=hpw.2.2 x hx h (by simp)
  show x<=h+1;omega
 ·have hkl:=(qAA.1 hk).1
  have a1:ts[k]?=some t':=by rw[e,qAI hkl];exact hk
  have a2:v.tries[k]?=some h':=by
   show v.tries[k]?=some h'
   rw[e2,qAI (by rw[<-hln];exact hkl)];exact hk'
  obtain⟨b1,b2,b3,b4,b5,b6⟩:=hs.2 k t' h' a1 a2
  refine⟨by rw[h3];exact b1,b2,by rw[h3];exact b3,by rw[h4];exact b4,b5,?_⟩
  rw[b6]
  congr 2
  show v.tries.take k=v.tries.dropLast.take k
  rw[qBF,List.take_take,qBw (by rw[<-qAy,<-hln];omega)]
theorem Fs.raise{A:Nat->Option VS}{all:List Thing}{calls:List Cl}{c:Cl}{H:Int}{ts:List Ty}(h:Fs A all calls c H ts): ∀t,ts.getLast? = some t->
  Fs A all (calls.take t.calls.toNat) t.c (t.height+1) ts.dropLast/\0<=t.height/\t.height<=H/\0<=t.calls/\t.calls<=calls.length:=by
 induction h with
 |prog hb ha hA ho hh ht hs =>
  intro t hl
  obtain⟨x,e,e0,e1,e2,e3,e4,e5,e6,e7,e8,e9⟩:=hs.raise ht hl
  refine⟨?_,by omega,by omega,by omega,by simp[e3]⟩
  rw[List.take_nil]
  exact .prog (by omega) e6 e7 ho (by show x+1=_;omega) e8 e9
 |func up hup hb ha hA ho hf hh ht hs ih =>
  rename_i cs c' c H ts' ts1 v
  intro t hl
  by_cases hn:ts1=[]
  ·subst hn
   rw[qBC]at hl ⊢
   obtain⟨i1,i2,i3,i4,i5⟩:=ih t hl
   have:=hup t (qBc hl)
   have:=ht.nn
   refine⟨?_,i2,by omega,i4,by simp;omega⟩
   rw[qBJ (by omega)]
   exact i1
  ·have hl':ts1.getLast? = some t:=by rw[List.getLast?_append]at hl;cases hg:ts1.getLast? with
    |none=>rw[qBa]at hg;exact absurd hg hn
    |some y=>rw[hg]at hl;simpa using hl
   obtain⟨x,e,e0,e1,e2,e3,e4,e5,e6,e7,e8,e9⟩:=hs.raise ht hl'
   have hcl:t.calls=((cs++[c']).length:Int):=by rw[e3];simp
   refine⟨?_,by omega,by omega,by omega,by omega⟩
   rw[hcl,qAn,qAw,List.dropLast_append_of_ne_nil hn]
   exact .func (by rw[e4];exact up) (by rw[e4];exact hup) (by omega) e6 e7 ho (by
    obtain⟨i,h1,h2,h3,h4,h5⟩:=hf
    exact⟨i,by rw[e5];exact h1,h2,h3,h4,h5⟩) (by show x+1=_;omega) e8 e9
def zUd: Rf->Prop
 | .n v=>Wn v=v
 | .b _=>True
theorem zfH(n:Int): Wn (Wn n)=Wn n:=by unfold Wn;omega
theorem zSa(n:Int): zUd (numR n):=zfH n
structure ImgOk(m:Img): Prop where
 pool:m.pool.length<=4000
 code:m.code.length<=20000
 thing:∀c∈m.pool,(c.isText=true->c.text.length<=200)/\Wn c.num=c.num
 ins:∀i∈m.code,0<=i.op/\i.op<=20/\0<=i.a/\i.a<=1048576/\0<=i.b/\i.b<=1048576/\(15<=i.op->i.a<m.code.length)
structure Ov(m:Img)(A:Nat->Option VS)(o:Thing): Prop where
 kind:o.kind=1\/o.kind=2\/o.kind=3\/o.kind=4
 con:o.kind=1->o.tag<m.pool.length
 fn:o.kind=2->A o.tag.toNat=some ⟨o.tag,o.parts.length,1,[]⟩
 cell:o.kind=3->o.parts.length=1
 txt:o.kind=4->o.parts=[]/\o.tag=o.text.length/\o.text.length<=200
 few:o.parts.length<=4000
 tag:0<=o.tag/\o.tag<=1048576
 num:∀r∈o.parts,zUd r
structure Lay(m:Img)(A:Nat->Option VS)(s:St): Prop where
 nodup:s.ly.Nodup
 lt:∀i∈s.ly,i<s.all.length
 roots:∀i,Rf.b i∈s.roots->i∈s.ly
 closed:Closed s.all s.ly
 used:s.used=(sumN s.all s.ly:Int)
 nums:∀r∈s.roots,zUd r
 objs:∀i,i<s.all.length->Ov m A (zAc s.all i)
 room:s.used<=s.words
 old:∀i,i<s.all.length->(zAc s.all i).kind=1->∀j,Rf.b j∈(zAc s.all i).parts->j<i
structure Val(s:St)(r:Rf): Prop where
 num:zUd r
 ly:∀i,r=.b i->i∈s.ly
variable {con:List UInt8->Bool}{m:Img}{A:Nat->Option VS}
theorem Lay.val{s:St}(h:Lay m A s){r:Rf}(hr:r∈s.roots): Val s r:=⟨h.nums r hr,fun i e=>h.roots i (e▸hr)⟩
theorem Lay.stack{s:St}(h:Lay m A s){r:Rf}(hr:r∈s.stack): Val s r:=h.val (qAm _ hr)
theorem Lay.fun_{s:St}(h:Lay m A s): Val s s.c.fun_:=h.val (by simp[St.roots])
theorem Lay.part{s:St}(h:Lay m A s){i:Nat}(hi:i∈s.ly){r:Rf}(hr:r∈(zAc s.all i).parts): Val s r :=
 ⟨(h.objs i (h.lt i hi)).num r hr,fun j e=>h.closed i hi j (e▸hr)⟩
theorem Val.n(s:St){v:Int}(h:Wn v=v): Val s (.n v):=⟨h,fun i e=>by cases e⟩
theorem Val.numR(s:St)(n:Int): Val s (numR n):=⟨zSa n,fun i e=>by cases e⟩
theorem Lay.sub{s t:St}(h:Lay m A s)(h1:t.all=s.all)(h2:t.ly=s.ly)(h3:t.used=s.used)(h4:t.words=s.words)(hr:∀r∈t.roots,Val s r): Lay m A t where
 nodup:=by rw[h2];exact h.nodup
 lt:=by rw[h1,h2];exact h.lt
 roots i hi:=by rw[h2];exact(hr _ hi).ly i rfl
 closed:=by rw[h1,h2];exact h.closed
 used:=by rw[h1,h2,h3];exact h.used
 nums r hm:=(hr r hm).num
 objs:=by rw[h1];exact h.objs
 room:=by rw[h3,h4];exact h.room
 old:=by rw[h1];exact h.old
theorem zEZ{s:St}{r:Rf}: r∈s.roots↔r∈s.stack\/r=s.c.fun_\/(∃c∈s.calls,c.fun_=r)\/∃t∈s.tries,t.c.fun_=r:=by
 simp[St.roots]
theorem Lay.of{s t:St}(h:Lay m A s)(h1:t.all=s.all)(h2:t.ly=s.ly)(h3:t.used=s.used)(h4:t.words=s.words)
  (a1:∀r∈t.stack,Val s r) (a2:Val s t.c.fun_) (a3:∀c∈t.calls,Val s c.fun_) (a4:∀y∈t.tries,Val s y.c.fun_):Lay m A t :=
 h.sub h1 h2 h3 h4 fun r hr=>by
  rcases zEZ.1 hr with h|h|⟨c,h,e⟩|⟨c,h,e⟩
  ·exact a1 r h
  ·rw[h];exact a2
  ·rw[<-e];exact a3 c h
  ·rw[<-e];exact a4 c h
theorem Lay.call{s:St}(h:Lay m A s){c:Cl}(hc:c∈s.calls): Val s c.fun_:=h.val (zEZ.2 (.inr (.inr (.inl ⟨c,hc,rfl⟩))))
theorem Lay.try_{s:St}(h:Lay m A s){c:Ty}(hc:c∈s.tries): Val s c.c.fun_:=h.val (zEZ.2 (.inr (.inr (.inr ⟨c,hc,rfl⟩))))
theorem Lay.gc{s:St}(h:Lay m A s)(n:Nat): Lay m A (s.gc n):=by
 unfold St.gc
 split
 ·obtain⟨h1,h2,h3,h4⟩:=zOS h.closed h.lt h.roots
  exact { nodup:=h1,lt:=fun i hi=>h.lt i (h2 i hi),roots:=h3,closed:=h4,used:=rfl,nums:=h.nums,objs:=h.objs,old:=h.old,
          room:=by
           have:=zGd (all:=s.all) h1 h2
           have h5:=h.used
           have h6:=h.room
           show ((live s.all s.roots:Nat):Int)<=s.words
           unfold live;omega }
 ·exact h
theorem zUp{s:St}(h:Lay m A s): ((live s.all s.roots:Nat):Int)<=s.used:=by
 obtain⟨h1,h2,h3,h4⟩:=zOS h.closed h.lt h.roots
 have:=zGd (all:=s.all) h1 h2
 have h5:=h.used
 unfold live;omega
theorem zHz{all:List Thing}{o:Thing}{i:Nat}(h:i<all.length): zAc (all++[o]) i=zAc all i:=by
 unfold zAc;rw[qAD,qAI h,<-qAD]
theorem zLO{all:List Thing}{o:Thing}: zAc (all++[o]) all.length=o:=by unfold zAc;simp
theorem zWm{all:List Thing}{o:Thing}{l:List Nat}(h:∀i∈l,i<all.length): sumN (all++[o]) (l++[all.length])=sumN all l+o.need:=by
 unfold sumN
 rw[qAU,List.sum_append]
 congr 1
 ·congr 1
  refine qBg fun i hi=>?_
  have:=zHz (o:=o) (h i hi);unfold zAc at this;rw[this]
 ·simp
theorem Lay.new{s:St}(h:Lay m A s){o:Thing}{n:Nat}(ho:Ov m A o)(hp:∀r∈o.parts,Val s r)(hr:(o.need:Int)<=s.words-s.used): Lay m A (s.new o n) where
 nodup:=by
  show (s.ly++[s.all.length]).Nodup
  rw[List.nodup_append]
  exact⟨h.nodup,by simp,fun a ha b hb e=>by rw[qAM]at hb;subst hb;have:=h.lt a ha;omega⟩
 lt i hi:=by
  show i<(s.all++[o]).length
  rw[qAE]
  rcases qAc.1 (show i∈s.ly++[s.all.length]from hi)with h1|h1
  ·have:=h.lt i h1;omega
  ·rw[qAM]at h1;simp[h1]
 roots i hi:=by
  show i∈s.ly++[s.all.length]
  rw[qAc,qAM]
  rcases zEZ.1 hi with h1|h1|⟨c,h1,e⟩|⟨c,h1,e⟩
  ·rcases qAc.1 (show Rf.b i∈s.stack.take (s.stack.length-n)++[Rf.b s.all.length]from h1)with h2|h2
   ·exact .inl ((h.stack (qAW h2)).ly i rfl)
   ·rw[qAM]at h2;injection h2 with h2;exact .inr h2
  ·exact .inl (h.fun_.ly i h1.symm)
  ·exact .inl ((h.call h1).ly i e)
  ·exact .inl ((h.try_ h1).ly i e)
 closed i hi j hj:=by
  show j∈s.ly++[s.all.length]
  rw[qAc]
  change i∈s.ly++[s.all.length]at hi
  change Rf.b j∈(zAc (s.all++[o]) i).parts at hj
  rcases qAc.1 hi with h1|h1
  ·rw[zHz (h.lt i h1)]at hj
   exact .inl (h.closed i h1 j hj)
  ·rw[qAM]at h1;subst h1
   rw[zLO]at hj
   exact .inl ((hp _ hj).ly j rfl)
 used:=by
  show s.used+(o.need:Int)=((sumN (s.all++[o]) (s.ly++[s.all.length]):Nat):Int)
  rw[zWm h.lt,h.used];omega
 nums r hr:=by
  rcases zEZ.1 hr with h1|h1|⟨c,h1,e⟩|⟨c,h1,e⟩
  ·rcases qAc.1 (show r∈s.stack.take (s.stack.length-n)++[Rf.b s.all.length]from h1)with h2|h2
   ·exact(h.stack (qAW h2)).num
   ·rw[qAM]at h2;subst h2;trivial
  ·rw[h1];exact h.fun_.num
  ·rw[<-e];exact(h.call h1).num
  ·rw[<-e];exact(h.try_ h1).num
 objs i hi:=by
  show Ov m A (zAc (s.all++[o]) i)
  rcases qAR i s.all.length with h1|h1
  ·rw[zHz h1];exact h.objs i h1
  ·have h2:i<(s.all++[o]).length:=hi
   have:i=s.all.length:=by simp at h2;omega
   subst this
   rw[zLO];exact ho
 room:=by
  show s.used+(o.need:Int)<=s.words
  omega
 old i hi hk j hj:=by
  change (zAc (s.all++[o]) i).kind=1 at hk
  change Rf.b j∈(zAc (s.all++[o]) i).parts at hj
  rcases qAR i s.all.length with h1|h1
  ·rw[zHz h1]at hk hj;exact h.old i h1 hk j hj
  ·have h2:i<(s.all++[o]).length:=hi
   have:i=s.all.length:=by simp at h2;omega
   subst this
   rw[zLO]at hj
   exact h.lt j ((hp _ hj).ly j rfl)
theorem zU8(all:List Thing)(o:Thing): zPQ all (all++[o]):=⟨by simp,fun i hi=>by rw[zHz hi];exact⟨rfl,rfl,rfl⟩⟩
theorem zIW(all:List Thing): zPQ all all:=⟨qAP _,fun _ _=>⟨rfl,rfl,rfl⟩⟩
theorem zFW{all:List Thing}{o:Thing}{i j:Nat}(hi:i<all.length): zAc (all.set i o) j=if i=j then o else zAc all j:=by
 unfold zAc
 rw[qAD,qAD,qAX]
 split
 ·subst_vars;first|rfl|(rw[if_pos hi];rfl)
 ·rfl
theorem zU7{all:List Thing}{o:Thing}{i:Nat}(hi:i<all.length)(h1:o.kind=(zAc all i).kind)(h2:o.tag=(zAc all i).tag)(h3:o.parts.length=(zAc all i).parts.length): zPQ all (all.set i o) :=
 ⟨by simp,fun j hj=>by
  rw[zFW hi]
  split
  ·subst_vars;exact⟨h1,h2,h3⟩
  ·exact⟨rfl,rfl,rfl⟩⟩
end Go.Vm
namespace Go.Vm
variable {con:List UInt8->Bool}{m:Img}{A:Nat->Option VS}
structure MOk(con:List UInt8->Bool)(m:Img)(A:Nat->Option VS)(s:St): Prop where
 good:Good con m A
 img:ImgOk m
 fr:Fs A s.all s.calls s.c s.stack.length s.tries
 lay:Lay m A s
 high:s.stack.length<=4000
 deep:s.calls.length<=1000
structure Now(con:List UInt8->Bool)(m:Img)(A:Nat->Option VS)(s:St)(i:Ins)(v:VS)(ts0 ts1:List Ty): Prop where
 here:Here A s.all s.calls s.c s.stack.length s.tries v ts0 ts1
 at_:m.code[s.c.at_.toNat]?=some i
 holds:(eff con m i v).holds=true
 floor:zA1 v<=v.height-(eff con m i v).takes
 behind:(eff con m i v).behind=true->A (s.c.at_+1).toNat=some { v with height:=v.height-(eff con m i v).takes+(eff con m i v).puts,tries:=if i.op=14 then v.tries.dropLast else if i.op=17 then v.tries++[v.height]else v.tries }
 there:(eff con m i v).there=true->A i.a.toNat=some { v with height:=v.height-(eff con m i v).takes+(eff con m i v).puts,tries:=if i.op=14 then v.tries.dropLast else if i.op=17 then v.tries++[v.height]else v.tries }
 try_:i.op=17->A i.a.toNat=some { v with height:=v.height+1 }
 clos:i.op=18->A i.a.toNat=some ⟨i.a,i.b,1,[]⟩
 ins:0<=i.op/\i.op<=20/\0<=i.a/\i.a<=1048576/\0<=i.b/\i.b<=1048576/\(15<=i.op->i.a<m.code.length)
theorem MOk.now{s:St}(h:MOk con m A s): ∃i v ts0 ts1,Now con m A s i v ts0 ts1:=by
 obtain⟨v,ts0,ts1,hh⟩:=h.fr.here
 obtain⟨hlt,l,hl,hall⟩:=h.good.some_ _ _ hh.hA
 obtain⟨i,hi⟩:∃i,m.code[s.c.at_.toNat]?=some i:=⟨_,qAB hlt⟩
 have hg:m.code.getD s.c.at_.toNat default=i:=by rw[qAD,hi];rfl
 have hat:=hh.at_
 unfold zGs at hl
 rw[hg]at hl
 dsimp only at hl
 split at hl
 ·cases hl
 ·rename_i hc
  injection hl with hl
  simp only[qBq,qBv,decide_eq_true_eq,qAV,not_or]at hc
  obtain⟨⟨h1,h2⟩,h3⟩:=hc
  refine⟨i,v,ts0,ts1,hh,hi,by simpa using h1,by omega,fun hb=>?_,fun hb=>?_,fun hb=>?_,fun hb=>?_,h.img.ins i (qAF hi)⟩
  ·have:=(hall ((s.c.at_.toNat:Int)+1,_) (by rw[<-hl,hb,if_pos rfl];exact qAm _ (qBe _ (qAM.2 rfl)))).2
   rw[show ((s.c.at_.toNat:Int)+1).toNat=(s.c.at_+1).toNat by omega]at this
   exact this
  ·exact(hall (i.a,_) (by rw[<-hl,hb,if_pos rfl];exact qBe _ (qAM.2 rfl))).2
  ·exact(hall (i.a,_) (by rw[<-hl,if_pos hb];exact qAm _ (qAm _ (qAm _ (qAM.2 rfl))))).2
  ·exact(hall (i.a,_) (by rw[<-hl,if_pos hb];exact qAm _ (qAm _ (qBe _ (qAM.2 rfl))))).2
theorem zEu{v:VS}{h:Int}(hl:v.tries.getLast? = some h): zA1 v=h:=by unfold zA1;rw[hl];rfl
theorem TrOk.floor{v:VS}(ht:TrOk v): ∀h∈v.tries,h<=zA1 v:=by
 intro h hm
 cases hl:v.tries.getLast? with
 |none=>rw[qBa]at hl;rw[hl]at hm;simp at hm
 |some x =>
  rw[zEu hl]
  have e:=zJF hl
  have hp:=ht.pw
  rw[e,List.pairwise_append]at hp
  rw[e]at hm
  rcases qAc.1 hm with h1|h1
  ·exact hp.2.2 h h1 x (by simp)
  ·simp at h1;omega
theorem TrOk.floor0{v:VS}(ht:TrOk v): 0<=zA1 v:=by
 cases hl:v.tries.getLast? with
 |none=>unfold zA1;rw[hl];simp
 |some x=>rw[zEu hl];exact(ht.le x (qBc hl)).1
theorem TrOk.tw{v:VS}(ht:TrOk v){h:Int}(hf:zA1 v<=h): TrOk { v with height:=h } :=
 ⟨ht.pw,fun x hx=>⟨(ht.le x hx).1,by have:=ht.floor x hx;show x<=h;omega⟩,by have:=ht.floor0;show 0<=h;omega⟩
theorem Now.straight{s:St}{i:Ins}{v:VS}{ts0 ts1:List Ty}(n:Now con m A s i v ts0 ts1){a:Int}{H:Int}(ha:0<=a)(hA:A a.toNat=some { v with height:=H-s.c.base })(hf:zA1 v<=H-s.c.base):
  Fs A s.all s.calls ⟨a,s.c.base,s.c.fun_⟩ H s.tries:=by
 have h:=n.here
 rw[h.app]
 exact h.same ⟨a,s.c.base,s.c.fun_⟩ _ H ts1 rfl rfl ha hA rfl rfl rfl (h.tr.tw hf) ⟨h.seg.1,fun k t x hk hx=>by
  obtain⟨b1,b2,b3,b4,b5,b6⟩:=h.seg.2 k t x hk hx
  exact⟨b1,b2,b3,b4,b5,b6⟩⟩
end Go.Vm
namespace Go.Vm
variable {con:List UInt8->Bool}{m:Img}{A:Nat->Option VS}
structure Res(con:List UInt8->Bool)(m:Img)(A:Nat->Option VS)(t:St): Prop where
 lay:Lay m A t
 ok:t.fin=0->MOk con m A t
 val:t.fin=1->t.stack≠[]
theorem Res.stop{s:St}(h:Lay m A s){e:Int}(h0:e≠0)(h1:e≠1): Res con m A (s.stop e) :=
 ⟨h.sub rfl rfl rfl rfl fun _ hr=>h.val hr,fun c=>absurd c h0,fun c=>absurd c h1⟩
theorem Res.of{t:St}(h0:t.fin=0)(h:MOk con m A t): Res con m A t:=⟨h.lay,fun _=>h,fun c=>by rw[h0]at c;cases c⟩
theorem cont{s t:St}{i:Ins}{v:VS}{ts0 ts1:List Ty}(n:Now con m A s i v ts0 ts1)(h:MOk con m A s){a:Int}(ha:0<=a)(hc:t.c=⟨a,s.c.base,s.c.fun_⟩)(hcs:t.calls=s.calls)(hts:t.tries=s.tries)(hg:zPQ s.all t.all)(hl:Lay m A t)(h4:t.stack.length<=4000)
  (hA:A a.toNat=some { v with height:=(t.stack.length:Int)-s.c.base }) (hf:zA1 v<=(t.stack.length:Int)-s.c.base):MOk con m A t where
 good:=h.good
 img:=h.img
 fr:=by rw[hc,hcs,hts];exact(n.straight ha hA hf).grown hg
 lay:=hl
 high:=h4
 deep:=by rw[hcs];exact h.deep
theorem Lay.goto{s:St}(h:Lay m A s)(a:Int): Lay m A (s.goto a):=h.sub rfl rfl rfl rfl fun _ hr=>h.val hr
theorem Val.goto{s:St}{r:Rf}(h:Val s r)(a:Int): Val (s.goto a) r:=⟨h.num,h.ly⟩
theorem top_mem{s:St}{k:Nat}(h:k<s.stack.length): s.top k∈s.stack:=by
 unfold St.top
 rw[qAD,qAB (by omega),qBY]
 exact qA8 _
theorem Lay.instead{s:St}(h:Lay m A s){r:Rf}(hr:Val s r)(n:Nat): Lay m A (s.instead n r) :=
 h.of rfl rfl rfl rfl (fun x hx=>by
  rcases qAc.1 (show x∈s.stack.take (s.stack.length-n)++[r]from hx)with h1|h1
  ·exact h.stack (qAW h1)
  ·rw[qAM]at h1;rw[h1];exact hr) h.fun_ (fun c hc=>h.call hc) (fun c hc=>h.try_ hc)
theorem zPv{s:St}{r:Rf}{n:Nat}: (s.instead n r).stack.length=s.stack.length-n+1:=by
 show (s.stack.take (s.stack.length-n)++[r]).length=_
 simp
theorem zJz{s:St}{i:Ins}{v:VS}{ts0 ts1:List Ty}(nw:Now con m A s i v ts0 ts1)(h:MOk con m A s){n:Nat}{r:Rf}(hr:Val s r){a:Int}(ha:0<=a)(hn:n<=s.stack.length)(h4:s.stack.length-n+1<=4000)
  (hA:A a.toNat=some { v with height:=v.height-n+1 }) (hf:zA1 v<=v.height-n):MOk con m A ((s.goto a).instead n r):=by
 have hl:((s.goto a).instead n r).stack.length=s.stack.length-n+1:=zPv (s:=s.goto a)
 have hh:=nw.here.height
 have e:(((s.goto a).instead n r).stack.length:Int)-s.c.base=v.height-n+1:=by rw[hl];omega
 exact cont nw h ha rfl rfl rfl (zIW _) ((h.lay.goto a).instead (hr.goto a) n) (by rw[hl];exact h4) (by rw[e];exact hA) (by rw[e];omega)
theorem Now.len{s:St}{i:Ins}{v:VS}{ts0 ts1:List Ty}(nw:Now con m A s i v ts0 ts1): (s.stack.length:Int)=s.c.base+v.height/\0<=s.c.base/\0<=zA1 v/\0<=s.c.at_ :=
 ⟨by have:=nw.here.height;omega,nw.here.base,nw.here.tr.floor0,nw.here.at_⟩
theorem zM4{s:St}{i:Ins}{v:VS}{ts0 ts1:List Ty}(nw:Now con m A s i v ts0 ts1)(h:MOk con m A s)(h0:s.fin=0){r:Rf}(hr:Val s r)(ht:(eff con m i v).takes=0)(hp:(eff con m i v).puts=1)(hb:(eff con m i v).behind=true)(h14:i.op≠14)(h17:i.op≠17):
  Res con m A ((s.goto (s.c.at_+1)).push r):=by
 obtain⟨hl,hb0,hf0,ha⟩:=nw.len
 have hA:=nw.behind hb
 rw[ht,hp,if_neg h14,if_neg h17]at hA
 have hf:=nw.floor
 rw[ht]at hf
 unfold St.push
 split
 ·exact .stop (h.lay.goto _) (by decide) (by decide)
 ·rename_i hh
  have hh2:s.stack.length+1<=4000:=by
   simp only[St.high,decide_eq_true_eq]at hh
   change ¬(s.stack.length:Int)+1>4000 at hh
   omega
  exact .of h0 (zJz nw h hr (by omega) (qAQ _) (by omega) (by rw[hA];simp) (by simpa using hf))
theorem zKd{s:St}{i:Ins}{v:VS}{ts0 ts1:List Ty}(nw:Now con m A s i v ts0 ts1)(h:MOk con m A s)(h0:s.fin=0){o:Thing}{n:Nat}(ho:Ov m A o)(hp:∀r∈o.parts,r∈s.stack)(ht:(eff con m i v).takes=n)(hpu:(eff con m i v).puts=1)(hb:(eff con m i v).behind=true)(h14:i.op≠14)(h17:i.op≠17):
  Res con m A ((s.goto (s.c.at_+1)).block o n):=by
 obtain⟨hl,hb0,hf0,ha⟩:=nw.len
 have hA:=nw.behind hb
 rw[ht,hpu,if_neg h14,if_neg h17]at hA
 have hf:=nw.floor
 rw[ht]at hf
 unfold St.block
 split
 ·exact .stop (h.lay.goto _) (by decide) (by decide)
 ·rename_i hh
  have hh2:s.stack.length+1<=4000+n:=by
   simp only[St.high,decide_eq_true_eq]at hh
   change ¬(s.stack.length:Int)+(1-(n:Int))>4000 at hh
   omega
  have hg:=(h.lay.goto (s.c.at_+1)).gc o.need
  have e:∀(k:Nat) (q:St),(q.gc k).stack=q.stack/\(q.gc k).c=q.c/\(q.gc k).calls=q.calls/\(q.gc k).tries=q.tries/\(q.gc k).all=q.all/\(q.gc k).fin=q.fin:=fun k q=>by unfold St.gc;split <;> exact⟨rfl,rfl,rfl,rfl,rfl,rfl⟩
  obtain⟨e1,e2,e3,e4,e5,e6⟩:=e o.need (s.goto (s.c.at_+1))
  unfold St.alloc
  split
  ·exact .stop hg (by decide) (by decide)
  ·rename_i hr
   generalize (s.goto (s.c.at_+1)).gc o.need=q at *
   have hq:(q.new o n).stack.length=s.stack.length-n+1:=by
    show (q.stack.take (q.stack.length-n)++[Rf.b q.all.length]).length=_
    rw[e1];show (s.stack.take (s.stack.length-n)++[Rf.b q.all.length]).length=_
    simp
   have hn:n<=s.stack.length:=by omega
   have hval:((q.new o n).stack.length:Int)-s.c.base=v.height-n+1:=by rw[hq];omega
   refine .of (by show q.fin=0;rw[e6];exact h0) (cont nw h (a:=s.c.at_+1) (by omega) (by show q.c=_;rw[e2];rfl) (by show q.calls=_;rw[e3];rfl) (by show q.tries=_;rw[e4];rfl) (by show zPQ s.all (q.all++[o]);rw[e5];exact zU8 _ _) (hg.new ho (fun r hr=>hg.stack (by rw[e1];exact hp r hr)) (by omega)) (by rw[hq];omega) (by rw[hval];exact hA) (by rw[hval];omega))
theorem zM1{s:St}{i:Ins}{v:VS}{ts0 ts1:List Ty}(nw:Now con m A s i v ts0 ts1)(h:MOk con m A s)(h0:s.fin=0)(a:Int){k:Int}(ht:(eff con m i v).takes>=1): Res con m A ((s.goto a).raise k):=by
 obtain⟨hl,hb0,hf0,ha⟩:=nw.len
 have hfl:=nw.floor
 unfold St.raise
 show Res con m A (match s.tries.getLast? with|none=>_|some t=>_)
 cases hg:s.tries.getLast? with
 |none=>exact⟨h.lay.sub rfl rfl rfl rfl fun _ hr=>h.lay.val hr,fun c=>absurd c (by simp),fun c=>absurd c (by simp)⟩
 |some t =>
  obtain⟨f1,f2,f3,f4,f5⟩:=h.fr.raise t hg
  have hht:t.height+1<=s.stack.length:=by
   have hm:t∈ts0++ts1:=by rw[<-nw.here.app];exact qBc hg
   by_cases hn:ts1=[]
   ·
    rw[hn,qBC]at hm
    have:=nw.here.below t hm
    have:=nw.here.tr.floor0
    omega
   ·have hl1:ts1.getLast? = some t:=by
     have:=hg;rw[nw.here.app,List.getLast?_append]at this
     cases hq:ts1.getLast? with
     |none=>rw[qBa]at hq;exact absurd hq hn
     |some y=>rw[hq]at this;simpa using this
    obtain⟨x,e,e0,e1,e2,_⟩:=nw.here.seg.raise nw.here.tr hl1
    have:zA1 v=x:=zEu (by rw[e];simp)
    omega
  refine .of h0 ⟨h.good,h.img,?_,?_,?_,?_⟩
  ·show Fs A s.all (s.calls.take t.calls.toNat) t.c ((s.stack.take t.height.toNat++[numR k]).length:Nat) s.tries.dropLast
   have:((s.stack.take t.height.toNat++[numR k]).length:Int)=t.height+1:=by simp;omega
   rw[this];exact f1
  ·refine h.lay.of rfl rfl rfl rfl (fun r hr=>?_) (h.lay.try_ (qBc hg)) (fun c hc=>h.lay.call (qAW hc)) (fun c hc=>h.lay.try_ (qBb _ hc))
   rcases qAc.1 (show r∈s.stack.take t.height.toNat++[numR k]from hr)with h1|h1
   ·exact h.lay.stack (qAW h1)
   ·rw[qAM]at h1;rw[h1];exact Val.numR _ _
  ·show (s.stack.take t.height.toNat++[numR k]).length<=4000
   have:=h.high
   simp;omega
  ·show (s.calls.take t.calls.toNat).length<=1000
   have:=h.deep
   simp;omega
end Go.Vm
namespace Go.Vm
variable {con:List UInt8->Bool}{m:Img}{A:Nat->Option VS}
section
variable {s:St}{i:Ins}{v:VS}{ts0 ts1:List Ty}
theorem Lay.obj{s:St}(h:Lay m A s){r:Rf}{k:Int}(hr:Val s r)(ho:s.of r k=true): ∃j,r=.b j/\j∈s.ly/\(zAc s.all j).kind=k/\s.obj r=zAc s.all j/\Ov m A (zAc s.all j):=by
 cases r with
 |n v=>simp[St.of]at ho
 |b j =>
  have:=hr.ly j rfl
  exact⟨j,rfl,this,by simpa[St.of,zAc]using ho,rfl,h.objs j (h.lt j this)⟩
theorem zPo(a:Int)(r:Rf)(k:Int): (s.goto a).of r k=s.of r k:=rfl
theorem zJE(a:Int)(k:Nat): (s.goto a).top k=s.top k:=rfl
theorem zJO(a:Int)(r:Rf): (s.goto a).obj r=s.obj r:=by cases r <;> rfl
theorem zat(nw:Now con m A s i v ts0 ts1)(h:MOk con m A s)(h0:s.fin=0){n:Nat}(x:Int)(ht:(eff con m i v).takes=n)(hp:(eff con m i v).puts=1)(hb:(eff con m i v).behind=true)(h14:i.op≠14)(h17:i.op≠17)(hn:1<=n):
  Res con m A ((s.goto (s.c.at_+1)).numI n x):=by
 obtain⟨hl,hb0,hf0,ha⟩:=nw.len
 have hA:=nw.behind hb
 rw[ht,hp,if_neg h14,if_neg h17]at hA
 have hf:=nw.floor
 rw[ht]at hf
 have:=h.high
 exact .of h0 (zJz nw h (Val.numR _ _) (by omega) (by omega) (by omega) hA hf)
theorem zUs(nw:Now con m A s i v ts0 ts1)(h:MOk con m A s)(h0:s.fin=0){n:Nat}{r:Rf}(hr:Val s r)(ht:(eff con m i v).takes=n)(hp:(eff con m i v).puts=1)(hb:(eff con m i v).behind=true)(h14:i.op≠14)(h17:i.op≠17)(hn:1<=n):
  Res con m A ((s.goto (s.c.at_+1)).instead n r):=by
 obtain⟨hl,hb0,hf0,ha⟩:=nw.len
 have hA:=nw.behind hb
 rw[ht,hp,if_neg h14,if_neg h17]at hA
 have hf:=nw.floor
 rw[ht]at hf
 have:=h.high
 exact .of h0 (zJz nw h hr (by omega) (by omega) (by omega) hA hf)
theorem effP(hp:i.op=12): eff con m i v=⟨takes i.a,1,decide (i.a<=13),true,false⟩:=by simp[eff,hp]
theorem zT8{t:St}{x:List UInt8}(h:Res con m A t): Res con m A (t.put x) :=
 ⟨h.lay.sub rfl rfl rfl rfl fun _ hr=>h.lay.val hr,fun c=>let k:=h.ok c;⟨k.good,k.img,k.fr,k.lay.sub rfl rfl rfl rfl fun _ hr=>k.lay.val hr,k.high,k.deep⟩,h.val⟩
theorem zTX{p:Int}(h0:0<=p)(h:p<=13): 1<=takes p/\takes p<=2:=by
 unfold takes
 rw[if_neg (by omega)]
 split <;> omega
theorem ints_ok(nw:Now con m A s i v ts0 ts1)(h:MOk con m A s)(h0:s.fin=0)(hop:i.op=12)(hp:i.a<7)(a b:Int): Res con m A ((s.goto (s.c.at_+1)).ints i.a a b):=by
 have ha:=nw.ins.2.2.1
 have e:=effP (con:=con) (m:=m) (v:=v) hop
 have e2:takes i.a=2:=by unfold takes;rw[if_neg (by omega),if_pos (by omega)]
 rw[e2]at e
 have hN:∀x,Res con m A ((s.goto (s.c.at_+1)).numI 2 x):=fun x=>zat nw h h0 x (by rw[e];rfl) (by rw[e]) (by rw[e]) (by omega) (by omega) (by omega)
 have hR:∀k,Res con m A ((s.goto (s.c.at_+1)).raise k):=fun k=>zM1 nw h h0 _ (by rw[e];show (2:Int)>=1;decide)
 unfold St.ints
 repeat' split
 all_goals first|exact hN _|exact hR _
theorem zag(shw:Int->List UInt8)(nw:Now con m A s i v ts0 ts1)(h:MOk con m A s)(h0:s.fin=0)(hop:i.op=12): Res con m A ((s.goto (s.c.at_+1)).prim shw i.a):=by
 obtain⟨hl,hb0,hf0,hat⟩:=nw.len
 have ha:=nw.ins.2.2.1
 have e:=effP (con:=con) (m:=m) (v:=v) hop
 have hh:=nw.holds
 rw[e]at hh
 simp only[decide_eq_true_eq]at hh
 obtain⟨t1,t2⟩:=zTX ha hh
 have hf:=nw.floor
 rw[e]at hf
 change zA1 v<=v.height-takes i.a at hf
 have hS:∀k,k≠0->k≠1->Res con m A ((s.goto (s.c.at_+1)).stop k):=fun k a b=>.stop (h.lay.goto _) a b
 have hR:∀k,Res con m A ((s.goto (s.c.at_+1)).raise k):=fun k=>zM1 nw h h0 _ (by rw[e];exact t1)
 have hI:∀(n:Nat) (r:Rf),Val s r->takes i.a=n->Res con m A ((s.goto (s.c.at_+1)).instead n r):=fun n r hr hn=>zUs nw h h0 hr (by rw[e];exact hn) (by rw[e]) (by rw[e]) (by omega) (by omega) (by omega)
 have hB:∀(o:Thing) (n:Nat),Ov m A o->(∀r∈o.parts,r∈s.stack)->takes i.a=n->Res con m A ((s.goto (s.c.at_+1)).block o n):=fun o n ho hp hn=>zKd nw h h0 ho hp (by rw[e];exact hn) (by rw[e]) (by rw[e]) (by omega) (by omega)
 have hva:Val s (s.top ((takes i.a).toNat-1)):=h.lay.stack (top_mem (by omega))
 have hvb:Val s (s.top 0):=h.lay.stack (top_mem (by omega))
 unfold St.prim
 dsimp only
 rw[zJE,zJE]
 generalize s.top ((takes i.a).toNat-1)=a at *
 by_cases c7:i.a<7
 ·rw[if_pos c7]
  generalize s.top 0=b at *
  cases a with
  |b _=>exact hS 4 (by decide) (by decide)
  |n x=>cases b with
   |b _=>exact hS 4 (by decide) (by decide)
   |n y=>exact ints_ok nw h h0 hop c7 x y
 rw[if_neg c7]
 by_cases c1:i.a=7
 ·rw[if_pos c1]
  split
  ·exact hS 4 (by decide) (by decide)
  ·split
   ·exact hR _
   ·rename_i hk hlen
    exact hB _ 2 ⟨by simp[zB6],by simp[zB6],by simp[zB6],by simp[zB6],fun _=>⟨rfl,rfl,by simpa[zB6]using hlen⟩,by simp[zB6],⟨by simp[zB6];omega,by
     have:((s.goto (s.c.at_+1)).obj a).text.length+((s.goto (s.c.at_+1)).obj (s.top 0)).text.length<=200:=by simpa using hlen
     simp only[zB6,qAE];omega⟩,by simp[zB6]⟩ (by simp[zB6]) (by rw[c1];rfl)
 rw[if_neg c1]
 by_cases c2:i.a=8
 ·rw[if_pos c2]
  split
  ·exact hS 4 (by decide) (by decide)
  ·exact hI 1 _ (Val.numR _ _) (by rw[c2];rfl)
 rw[if_neg c2]
 by_cases c3:i.a=13
 ·rw[if_pos c3]
  split
  ·exact hS 4 (by decide) (by decide)
  ·exact zT8 (hI 1 _ (Val.numR _ _) (by rw[c3];rfl))
 rw[if_neg c3]
 by_cases c4:i.a=9
 ·rw[if_pos c4]
  have ht:takes i.a=1:=by rw[c4];rfl
  have hlen:1<=s.stack.length:=by omega
  have hp:(s.goto (s.c.at_+1)).partsT 1=s.stack.drop (s.stack.length-1):=rfl
  rw[hp]
  have hpl:(s.stack.drop (s.stack.length-1)).length=1:=by simp;omega
  exact hB _ 1 ⟨by simp,by simp,by simp,fun _=>hpl,by simp,by show (s.stack.drop _).length<=_;omega,by simp,fun r hr=>(h.lay.stack (qAo hr)).num⟩ (fun r hr=>qAo hr) ht
 rw[if_neg c4]
 by_cases c5:i.a=10
 ·rw[if_pos c5]
  split
  ·exact hS 4 (by decide) (by decide)
  ·rename_i hk
   simp only[qBv,Bool.not_eq_false]at hk
   rw[zPo]at hk
   obtain⟨j,rfl,hj,hkd,hoj,ov⟩:=h.lay.obj hva (by simpa using hk)
   rw[zJO,hoj]
   have hc:=ov.cell hkd
   refine hI 1 _ (h.lay.part hj ?_) (by rw[c5];rfl)
   rw[qAD,qAB (by omega),qBY]
   exact qA8 _
 rw[if_neg c5]
 by_cases c6:i.a=11
 ·rw[if_pos c6]
  cases a with
  |n x=>exact hS 4 (by decide) (by decide)
  |b j =>
   dsimp only
   split
   ·exact hS 4 (by decide) (by decide)
   ·rename_i hk
    have hkd:(zAc s.all j).kind=3:=by
     simp only[ne_eq,Classical.not_not]at hk;exact hk
    have hj:=hva.ly j rfl
    have hjl:=h.lay.lt j hj
    have ov:=h.lay.objs j hjl
    have hc:=ov.cell hkd
    have e3:takes i.a=2:=by rw[c6];rfl
    have hA:=nw.behind (by rw[e])
    rw[e,if_neg (by omega),if_neg (by omega)]at hA
    dsimp only at hA
    rw[e3]at hA hf
    generalize hob:({ kind:=((s.goto (s.c.at_+1)).all.getD j default).kind,tag:=((s.goto (s.c.at_+1)).all.getD j default).tag,text:=((s.goto (s.c.at_+1)).all.getD j default).text,parts:=((s.goto (s.c.at_+1)).all.getD j default).parts.set 0 (s.top 0) }:Thing)=o
    have o1:o.kind=3:=by rw[<-hob];exact hkd
    have o2:o.tag=(zAc s.all j).tag:=by rw[<-hob];rfl
    have o3:o.parts=(zAc s.all j).parts.set 0 (s.top 0):=by rw[<-hob];rfl
    have o4:o.text=(zAc s.all j).text:=by rw[<-hob];rfl
    have hgr:zPQ s.all (s.all.set j o):=zU7 hjl (o1.trans hkd.symm) o2 (by rw[o3];simp)
    have hneed:∀x,((s.all.set j o).getD x default).need=(s.all.getD x default).need:=fun x=>by
     have:=zFW (o:=o) (j:=x) hjl
     unfold zAc at this
     rw[this]
     split
     ·subst_vars
      unfold Thing.need
      have hk3:(s.all.getD x default).kind=3:=hkd
      rw[o1,hk3,if_neg (by decide),if_neg (by decide),o3];simp[zAc]
     ·rfl
    have hpv:∀r∈o.parts,Val s r:=fun r hr=>by
     rw[o3]at hr
     rcases qBZ hr with h1|h1
     ·exact h.lay.part hj h1
     ·rw[h1];exact hvb
    have hlay:Lay m A ({ s.goto (s.c.at_+1)with all:=s.all.set j o }:St) :=
     { nodup:=h.lay.nodup,lt:=fun x hx=>by show x<(s.all.set j o).length;rw[qAZ];exact h.lay.lt x hx,roots:=h.lay.roots,
       closed:=fun x hx y hy=>by
        change Rf.b y∈(zAc (s.all.set j o) x).parts at hy
        rw[zFW hjl]at hy
        split at hy
        ·exact(hpv _ hy).ly y rfl
        ·exact h.lay.closed x hx y hy
       used:=by
        show s.used=_
        rw[h.lay.used]
        unfold sumN
        congr 3
        funext x;exact(hneed x).symm
       nums:=h.lay.nums
       objs:=fun x hx=>by
        show Ov m A (zAc (s.all.set j o) x)
        have hx':x<s.all.length:=by have:x<(s.all.set j o).length:=hx;rwa [qAZ]at this
        rw[zFW hjl]
        split
        ·exact⟨.inr (.inr (.inl o1)),(by rw[o1];intro c;cases c),(by rw[o1];intro c;cases c),fun _=>by rw[o3];simpa using hc,(by rw[o1];intro c;cases c),by rw[o3,qAZ];exact ov.few,by rw[o2];exact ov.tag,fun r hr=>(hpv r hr).num⟩
        ·exact h.lay.objs x hx'
       room:=h.lay.room
       old:=fun x hx hk1 y hy=>by
        change (zAc (s.all.set j o) x).kind=1 at hk1
        change Rf.b y∈(zAc (s.all.set j o) x).parts at hy
        have hx':x<s.all.length:=by have:x<(s.all.set j o).length:=hx;rwa [qAZ]at this
        rw[zFW hjl]at hk1 hy
        split at hk1
        ·rw[o1]at hk1;cases hk1
        ·rename_i hne;rw[if_neg hne]at hy;exact h.lay.old x hx' hk1 y hy }
    have hq:((({ s.goto (s.c.at_+1)with all:=s.all.set j o }:St).numI 2 0).stack.length:Int)-s.c.base=v.height-2+1:=by
     show ((s.stack.take (s.stack.length-2)++[numR 0]).length:Int)-s.c.base=_
     simp;omega
    have hq4:(({ s.goto (s.c.at_+1)with all:=s.all.set j o }:St).numI 2 0).stack.length<=4000:=by
     have:=h.high
     show (s.stack.take (s.stack.length-2)++[numR 0]).length<=4000
     simp;omega
    exact .of h0 (cont nw h (a:=s.c.at_+1) (by omega) rfl rfl rfl hgr (hlay.instead (Val.numR _ _) 2) hq4 (hA.trans (by rw[<-hq];rfl)) (Int.le_trans (show zA1 v<=v.height-2+1 by omega) (Int.le_of_eq hq.symm)))
 rw[if_neg c6]
 cases a with
 |b j=>exact hS 4 (by decide) (by decide)
 |n x =>
  have c12:i.a=12:=by omega
  have e3:takes i.a=1:=by rw[c12];rfl
  have hA:=nw.behind (by rw[e])
  rw[e,if_neg (by omega),if_neg (by omega)]at hA
  dsimp only at hA
  rw[e3]at hA hf
  have hq:((s.goto (s.c.at_+1)).stack.length:Int)-s.c.base=v.height-1+1:=by show (s.stack.length:Int)-s.c.base=_;omega
  exact zT8 (.of h0 (cont nw h (a:=s.c.at_+1) (by omega) rfl rfl rfl (zIW _) (h.lay.goto _) h.high (by rw[hq];exact hA) (by rw[hq];omega)))
end
end Go.Vm
namespace Go.Vm
variable {con:List UInt8->Bool}{m:Img}{A:Nat->Option VS}
section
variable {s:St}{i:Ins}{v:VS}{ts0 ts1:List Ty}
theorem zLf(nw:Now con m A s i v ts0 ts1)(h:MOk con m A s)(h0:s.fin=0){a:Int}(ha:0<=a)(hA:A a.toNat=some { v with height:=v.height }): Res con m A (s.goto a):=by
 obtain⟨hl,hb0,hf0,hat⟩:=nw.len
 have hq:((s.goto a).stack.length:Int)-s.c.base=v.height:=by show (s.stack.length:Int)-s.c.base=_;omega
 have:=nw.here.tr.floor0
 have hfl:zA1 v<=v.height:=by
  cases hg:v.tries.getLast? with
  |none=>unfold zA1;rw[hg];exact nw.here.tr.nn
  |some x=>rw[zEu hg];exact(nw.here.tr.le x (qBc hg)).2
 exact .of h0 (cont nw h ha rfl rfl rfl (zIW _) (h.lay.goto _) h.high (by rw[hq];exact hA) (by rw[hq];exact hfl))
theorem zUM(nw:Now con m A s i v ts0 ts1)(h:MOk con m A s)(h0:s.fin=0){n:Nat}{a:Int}(ha:0<=a)(hn:(n:Int)<=v.height)(hA:A a.toNat=some { v with height:=v.height-n })(hf:zA1 v<=v.height-n):
  Res con m A { s.goto a with stack:=s.stack.take (s.stack.length-n) }:=by
 obtain⟨hl,hb0,hf0,hat⟩:=nw.len
 have hq:((s.stack.take (s.stack.length-n)).length:Int)-s.c.base=v.height-n:=by simp;omega
 have:=h.high
 refine .of h0 (cont nw h (a:=a) ha rfl rfl rfl (zIW _) (h.lay.of rfl rfl rfl rfl (fun r hr=>h.lay.stack (qAW hr)) h.lay.fun_ (fun c hc=>h.lay.call hc) (fun c hc=>h.lay.try_ hc)) ?_ ?_ ?_)
 ·show (s.stack.take (s.stack.length-n)).length<=4000;simp;omega
 ·exact hA.trans (by rw[<-hq])
 ·exact Int.le_trans hf (Int.le_of_eq hq.symm)
theorem zZA(nw:Now con m A s i v ts0 ts1)(h:MOk con m A s)(h0:s.fin=0)(tail:Bool)(hop:i.op=if tail then 8 else 7): Res con m A ((s.goto (s.c.at_+1)).app tail):=by
 obtain⟨hl,hb0,hf0,hat⟩:=nw.len
 have e:eff con m i v=if tail then⟨2,0,decide (v.of>=0)&&v.tries.isEmpty,false,false⟩else⟨2,1,true,true,false⟩:=by cases tail <;> simp[eff,hop]
 have ht:(eff con m i v).takes=2:=by rw[e];cases tail <;> rfl
 have hf:=nw.floor
 rw[ht]at hf
 have hlen:2<=s.stack.length:=by omega
 have hv1:Val s (s.top 1):=h.lay.stack (top_mem (by omega))
 have hv0:Val s (s.top 0):=h.lay.stack (top_mem (by omega))
 unfold St.app
 dsimp only
 rw[zJE,zJE,zPo]
 split
 ·exact .stop (h.lay.goto _) (by decide) (by decide)
 ·rename_i hk
  obtain⟨j,hj1,hj,hkd,hoj,ov⟩:=h.lay.obj hv1 (by simpa using hk)
  rw[zJO,hoj]
  have hjl:=h.lay.lt j hj
  have htag:=ov.tag
  have hfn:=ov.fn hkd
  have hfo:FunOk s.all (s.top 1) ⟨(zAc s.all j).tag,((zAc s.all j).parts.length:Nat),1,[]⟩:=⟨j,hj1,hjl,hkd,rfl,rfl⟩
  have htr:TrOk ⟨(zAc s.all j).tag,((zAc s.all j).parts.length:Nat),1,[]⟩:=⟨List.Pairwise.nil,by simp,by show (0:Int)<=1;decide⟩
  cases tail with
  |true =>
   rw[if_pos rfl]
   rw[if_pos rfl]at e
   have hh:=nw.holds
   rw[e]at hh
   simp only[qAV,decide_eq_true_eq,List.isEmpty_iff]at hh
   have hts1:ts1=[]:=qAq (by rw[nw.here.seg.1,hh.2];rfl)
   have hqn:(s.stack.take s.c.base.toNat++[s.top 0]).length=s.c.base.toNat+1:=by simp;omega
   refine .of h0 ⟨h.good,h.img,?_,h.lay.of rfl rfl rfl rfl (fun r hr=>?_) hv1 (fun c hc=>h.lay.call hc) (fun c hc=>h.lay.try_ hc),?_,h.deep⟩
   ·show Fs A s.all s.calls ⟨(zAc s.all j).tag,s.c.base,s.top 1⟩ ((s.stack.take s.c.base.toNat++[s.top 0]).length:Nat) s.tries
    have:=nw.here.other hh.1 ⟨(zAc s.all j).tag,s.c.base,s.top 1⟩ _ (s.c.base+1) [] rfl htag.1 hfn htag.1 hfo (by show (1:Int)=_;omega) htr ⟨rfl,fun k t x hk=>by simp at hk⟩
    rw[nw.here.app,hts1,hqn]
    rw[show ((s.c.base.toNat+1:Nat):Int)=s.c.base+1 by omega]
    exact this
   ·rcases qAc.1 (show r∈s.stack.take s.c.base.toNat++[s.top 0]from hr)with h1|h1
    ·exact h.lay.stack (qAW h1)
    ·rw[qAM]at h1;rw[h1];exact hv0
   ·show (s.stack.take s.c.base.toNat++[s.top 0]).length<=4000
    have:=h.high
    rw[hqn];omega
  |false =>
   rw[if_neg (by decide)]
   rw[if_neg (by decide)]at e
   split
   ·exact .stop (h.lay.goto _) (by decide) (by decide)
   ·rename_i hd
    have hd2:s.calls.length<1000:=by
     change ¬s.calls.length>=1000 at hd;omega
    have hA:=nw.behind (by rw[e])
    rw[e,if_neg (by rw[hop];decide),if_neg (by rw[hop];decide)]at hA
    dsimp only at hA
    have hqn:(s.stack.take (s.stack.length-2)++[s.top 0]).length=s.stack.length-1:=by simp;omega
    have up:Fs A s.all s.calls ⟨s.c.at_+1,s.c.base,s.c.fun_⟩ ((s.stack.length:Int)-2+1) s.tries :=
     nw.straight (by omega) (by rw[hA];congr 2;omega) (by omega)
    refine .of h0 ⟨h.good,h.img,?_,h.lay.of rfl rfl rfl rfl (fun r hr=>?_) hv1 (fun c hc=>?_) (fun c hc=>h.lay.try_ hc),?_,?_⟩
    ·show Fs A s.all (s.calls++[⟨s.c.at_+1,s.c.base,s.c.fun_⟩]) ⟨(zAc s.all j).tag,(s.stack.length:Int)-2,s.top 1⟩ ((s.stack.take (s.stack.length-2)++[s.top 0]).length:Nat) s.tries
     have hbelow:∀t∈s.tries,t.height<=(s.stack.length:Int)-2:=fun t htm=>by
      rw[nw.here.app]at htm
      rcases qAc.1 htm with h1|h1
      ·have:=nw.here.below t h1;omega
      ·obtain⟨k,hk⟩:=qA1.1 h1
       have hkl:=(qAA.1 hk).1
       obtain⟨x,hx⟩:∃x,v.tries[k]?=some x:=⟨_,qAB (by rw[<-nw.here.seg.1];exact hkl)⟩
       have h5:=(nw.here.seg.2 k t x hk hx).1
       have h6:=nw.here.tr.floor x (qAF hx)
       omega
     have hlast:=Fs.func (ts:=[]) (c:=⟨(zAc s.all j).tag,(s.stack.length:Int)-2,s.top 1⟩) (H:=(s.stack.length:Int)-1) up hbelow (by show 0<=(s.stack.length:Int)-2;omega) htag.1 hfn htag.1 hfo (by show (1:Int)=(s.stack.length:Int)-1-((s.stack.length:Int)-2);omega) htr ⟨rfl,fun k t x hk=>by simp at hk⟩
     rw[qBC]at hlast
     rw[hqn,show ((s.stack.length-1:Nat):Int)=(s.stack.length:Int)-1 by omega]
     exact hlast
    ·rcases qAc.1 (show r∈s.stack.take (s.stack.length-2)++[s.top 0]from hr)with h1|h1
     ·exact h.lay.stack (qAW h1)
     ·rw[qAM]at h1;rw[h1];exact hv0
    ·rcases qAc.1 (show c∈s.calls++[⟨s.c.at_+1,s.c.base,s.c.fun_⟩]from hc)with h1|h1
     ·exact h.lay.call h1
     ·rw[qAM]at h1;rw[h1];exact h.lay.fun_
    ·show (s.stack.take (s.stack.length-2)++[s.top 0]).length<=4000
     have:=h.high
     rw[hqn];omega
    ·show (s.calls++[_]).length<=1000
     simp;omega
theorem zct(nw:Now con m A s i v ts0 ts1)(h:MOk con m A s)(h0:s.fin=0)(hop:i.op=9):
  Res con m A { s.goto (s.c.at_+1)with stack:=s.stack.take s.c.base.toNat++[s.top 0],c:=(s.calls.getLast?).getD default,calls:=s.calls.dropLast }/\s.calls≠[]/\1<=v.height:=by
 obtain⟨hl,hb0,hf0,hat⟩:=nw.len
 have e:eff con m i v=⟨1,0,decide (v.of>=0)&&v.tries.isEmpty,false,false⟩:=by simp[eff,hop]
 have hf:=nw.floor
 have hh:=nw.holds
 rw[e]at hh hf
 simp only[qAV,decide_eq_true_eq,List.isEmpty_iff]at hh
 change zA1 v<=v.height-1 at hf
 have hts1:ts1=[]:=qAq (by rw[nw.here.seg.1,hh.2];rfl)
 obtain⟨cs,c',hcs,hb⟩:=nw.here.back hh.1
 have hlen:1<=s.stack.length:=by omega
 have hv0:Val s (s.top 0):=h.lay.stack (top_mem (by omega))
 have hqn:(s.stack.take s.c.base.toNat++[s.top 0]).length=s.c.base.toNat+1:=by simp;omega
 refine⟨.of h0 ⟨h.good,h.img,?_,h.lay.of rfl rfl rfl rfl (fun r hr=>?_) ?_ (fun c hc=>h.lay.call (qBb _ hc)) (fun c hc=>h.lay.try_ hc),?_,?_⟩,by rw[hcs];simp,by omega⟩
 ·show Fs A s.all s.calls.dropLast ((s.calls.getLast?).getD default) ((s.stack.take s.c.base.toNat++[s.top 0]).length:Nat) s.tries
  rw[nw.here.app,hts1,hqn,hcs,show ((s.c.base.toNat+1:Nat):Int)=s.c.base+1 by omega]
  simpa using hb
 ·rcases qAc.1 (show r∈s.stack.take s.c.base.toNat++[s.top 0]from hr)with h1|h1
  ·exact h.lay.stack (qAW h1)
  ·rw[qAM]at h1;rw[h1];exact hv0
 ·show Val s ((s.calls.getLast?).getD default).fun_
  rw[hcs];simp only[List.getLast?_concat,qBY]
  exact h.lay.call (by rw[hcs];simp)
 ·show (s.stack.take s.c.base.toNat++[s.top 0]).length<=4000
  have:=h.high
  rw[hqn];omega
 ·show s.calls.dropLast.length<=1000
  have:=h.deep
  simp;omega
theorem zcM(nw:Now con m A s i v ts0 ts1)(h:MOk con m A s)(h0:s.fin=0)(hop:i.op=17):
  Res con m A { s.goto (s.c.at_+1)with tries:=s.tries++[⟨⟨i.a,s.c.base,s.c.fun_⟩,s.stack.length,s.calls.length⟩] }:=by
 obtain⟨hl,hb0,hf0,hat⟩:=nw.len
 have e:eff con m i v=⟨0,0,true,true,false⟩:=by simp[eff,hop]
 have hA:=nw.behind (by rw[e])
 rw[e,if_neg (by rw[hop];decide),if_pos hop]at hA
 have ht:=nw.try_ hop
 have hh:=nw.here
 refine .of h0 ⟨h.good,h.img,?_,h.lay.of rfl rfl rfl rfl (fun r hr=>h.lay.stack hr) h.lay.fun_ (fun c hc=>h.lay.call hc) (fun c hc=>?_),h.high,h.deep⟩
 ·show Fs A s.all s.calls ⟨s.c.at_+1,s.c.base,s.c.fun_⟩ (s.stack.length:Nat) (s.tries++[⟨⟨i.a,s.c.base,s.c.fun_⟩,s.stack.length,s.calls.length⟩])
  rw[hh.app,qAg]
  refine hh.same ⟨s.c.at_+1,s.c.base,s.c.fun_⟩ _ _ _ rfl rfl (by show 0<=s.c.at_+1;omega) hA rfl rfl (by show v.height-0+0=_;omega) ⟨?_,fun x hx=>?_,by show 0<=v.height-0+0;have:=hh.tr.nn;omega⟩ ⟨?_,fun k t x hk hx=>?_⟩
  ·show (v.tries++[v.height]).Pairwise (·<=·)
   rw[List.pairwise_append]
   exact⟨hh.tr.pw,by simp,fun a ha b hb=>by simp at hb;subst hb;exact(hh.tr.le a ha).2⟩
  ·rcases qAc.1 (show x∈v.tries++[v.height]from hx)with h1|h1
   ·have:=hh.tr.le x h1
    exact⟨this.1,by show x<=v.height-0+0;omega⟩
   ·simp at h1;subst h1
    exact⟨hh.tr.nn,by show v.height<=v.height-0+0;omega⟩
  ·show (ts1++[_]).length=(v.tries++[v.height]).length
   simp[hh.seg.1]
  ·change (v.tries++[v.height])[k]?=some x at hx
   have hkl:=(qAA.1 hk).1
   rw[qAE,qAz]at hkl
   rcases qAR k ts1.length with h1|h1
   ·rw[qAI h1]at hk
    rw[qAI (by rw[<-hh.seg.1];exact h1)]at hx
    obtain⟨b1,b2,b3,b4,b5,b6⟩:=hh.seg.2 k t x hk hx
    refine⟨b1,b2,b3,b4,b5,?_⟩
    rw[b6]
    show some (VS.mk v.of v.has (x+1) (v.tries.take k))=some (VS.mk v.of v.has (x+1) ((v.tries++[v.height]).take k))
    rw[qBJ (by rw[<-hh.seg.1];omega)]
   ·have hkk:k=ts1.length:=by omega
    subst hkk
    rw[qAJ (qAP _),qBM]at hk
    rw[hh.seg.1,qAJ (qAP _),qBM]at hx
    simp at hk hx
    subst hk;subst hx
    refine⟨by show (s.stack.length:Int)=s.c.base+v.height;omega,rfl,rfl,rfl,nw.ins.2.2.1,?_⟩
    show A i.a.toNat=some (VS.mk v.of v.has (v.height+1) ((v.tries++[v.height]).take ts1.length))
    rw[ht,hh.seg.1];simp
 ·rcases qAc.1 (show c∈s.tries++[_]from hc)with h1|h1
  ·exact h.lay.try_ h1
  ·rw[qAM]at h1;rw[h1];exact h.lay.fun_
theorem zWd(nw:Now con m A s i v ts0 ts1)(h:MOk con m A s)(h0:s.fin=0)(hop:i.op=14):
  Res con m A { s.goto (s.c.at_+1)with tries:=s.tries.dropLast }/\s.tries≠[]:=by
 obtain⟨hl,hb0,hf0,hat⟩:=nw.len
 have e:eff con m i v=⟨0,0, !v.tries.isEmpty,true,false⟩:=by simp[eff,hop]
 have hA:=nw.behind (by rw[e])
 rw[e,if_pos hop]at hA
 have hh:=nw.holds
 rw[e]at hh
 have hne:v.tries≠[]:=by simpa[List.isEmpty_iff]using hh
 have hh:=nw.here
 have hne1:ts1≠[]:=fun c=>by have:=hh.seg.1;rw[c]at this;exact hne (qAq this.symm)
 have hdl:s.tries.dropLast=ts0++ts1.dropLast:=by rw[hh.app,List.dropLast_append_of_ne_nil hne1]
 refine⟨.of h0 ⟨h.good,h.img,?_,h.lay.of rfl rfl rfl rfl (fun r hr=>h.lay.stack hr) h.lay.fun_ (fun c hc=>h.lay.call hc) (fun c hc=>h.lay.try_ (qBb _ hc)),h.high,h.deep⟩,by rw[hh.app];simp[hne1]⟩
 show Fs A s.all s.calls ⟨s.c.at_+1,s.c.base,s.c.fun_⟩ (s.stack.length:Nat) s.tries.dropLast
 rw[hdl]
 refine hh.same ⟨s.c.at_+1,s.c.base,s.c.fun_⟩ _ _ _ rfl rfl (by show 0<=s.c.at_+1;omega) hA rfl rfl (by show v.height-0+0=_;omega) ⟨?_,fun x hx=>?_,by show 0<=v.height-0+0;have:=hh.tr.nn;omega⟩ ⟨?_,fun k t x hk hx=>?_⟩
 ·show v.tries.dropLast.Pairwise (·<=·)
  exact hh.tr.pw.sublist (List.dropLast_sublist _)
 ·have:=hh.tr.le x (qBb _ hx)
  exact⟨this.1,by show x<=v.height-0+0;omega⟩
 ·show ts1.dropLast.length=v.tries.dropLast.length
  simp[hh.seg.1]
 ·change v.tries.dropLast[k]?=some x at hx
  have hkl:=(qAA.1 hk).1
  rw[qAy]at hkl
  rw[List.getElem?_dropLast,if_pos hkl]at hk
  rw[List.getElem?_dropLast,if_pos (by rw[<-hh.seg.1];exact hkl)]at hx
  obtain⟨b1,b2,b3,b4,b5,b6⟩:=hh.seg.2 k t x hk hx
  refine⟨b1,b2,b3,b4,b5,?_⟩
  rw[b6]
  show some (VS.mk v.of v.has (x+1) (v.tries.take k))=some (VS.mk v.of v.has (x+1) (v.tries.dropLast.take k))
  rw[qBF,List.take_take,qBw (by rw[<-hh.seg.1];omega)]
end
end Go.Vm
namespace Go.Vm
variable {con:List UInt8->Bool}{m:Img}{A:Nat->Option VS}
theorem zYC{k:Int}(h:zGS con m k=true)(hk:0<=k): k<m.pool.length:=by
 unfold zGS at h
 cases hp:m.pool[k.toNat]? with
 |none=>rw[hp]at h;cases h
 |some c=>have:=(qAA.1 hp).1;omega
theorem zNP{α:Type}[Inhabited α]{l:List α}{k:Nat}{x:α}(h:l[k]?=some x): l.getD k default=x:=by rw[qAD,h];rfl
theorem zZz(shw:Int->List UInt8){s:St}(h:MOk con m A s)(h0:s.fin=0): Res con m A (step shw m s):=by
 obtain⟨i,v,ts0,ts1,nw⟩:=h.now
 obtain⟨hl,hb0,hf0,hat⟩:=nw.len
 obtain⟨o0,o20,a0,a1,b0,b1,hgo⟩:=nw.ins
 have hi:=zNP nw.at_
 unfold step
 dsimp only
 rw[hi]
 have hfl:=nw.floor
 have hhd:=nw.holds
 by_cases c0:i.op=0
 ·rw[if_pos c0]
  have e:eff con m i v=⟨1,0, !decide (v.of>=0)&&v.tries.isEmpty,false,false⟩:=by simp[eff,c0]
  rw[e]at hfl
  change zA1 v<=v.height-1 at hfl
  refine⟨h.lay.sub rfl rfl rfl rfl fun _ hr=>h.lay.val hr,fun c=>absurd c (by simp[St.stop]),fun _ c=>?_⟩
  have:s.stack=[]:=c
  rw[this]at hl;simp at hl;omega
 rw[if_neg c0]
 by_cases c1:i.op=1
 ·rw[if_pos c1]
  have e:eff con m i v=⟨0,1,decide (i.a<m.pool.length),true,false⟩:=by simp[eff,c1]
  rw[e]at hhd
  simp only[decide_eq_true_eq]at hhd
  obtain⟨c,hc⟩:∃c,m.pool[i.a.toNat]?=some c:=⟨_,qAB (by omega)⟩
  rw[zNP hc]
  have hth:=h.img.thing c (qAF hc)
  split
  ·rename_i ht
   have:=hth.1 ht
   exact zKd nw h h0 (n:=0) ⟨by simp[zB6],by simp[zB6],by simp[zB6],by simp[zB6],fun _=>⟨rfl,rfl,this⟩,by simp[zB6],⟨by simp[zB6],by simp only[zB6];omega⟩,by simp[zB6]⟩ (by simp[zB6]) (by rw[e];rfl) (by rw[e]) (by rw[e]) (by omega) (by omega)
  ·exact zM4 nw h h0 (Val.numR _ _) (by rw[e]) (by rw[e]) (by rw[e]) (by omega) (by omega)
 rw[if_neg c1]
 by_cases c2:i.op=2
 ·rw[if_pos c2]
  have e:eff con m i v=⟨0,1,decide (i.a<v.height),true,false⟩:=by simp[eff,c2]
  rw[e]at hhd
  simp only[decide_eq_true_eq]at hhd
  exact zM4 nw h h0 (h.lay.stack (top_mem (s:=s) (by omega))) (by rw[e]) (by rw[e]) (by rw[e]) (by omega) (by omega)
 rw[if_neg c2]
 by_cases c3:i.op=3
 ·rw[if_pos c3]
  have e:eff con m i v=⟨0,1,decide (v.of>=0)&&decide (i.a<v.has),true,false⟩:=by simp[eff,c3]
  rw[e]at hhd
  simp only[qAV,decide_eq_true_eq]at hhd
  rcases nw.here.kind with hk|⟨hk,j,f1,f2,f3,f4,f5⟩
  ·omega
  ·have hj:j∈s.ly:=h.lay.fun_.ly j f1
   rw[zJO]
   show Res con m A ((s.goto (s.c.at_+1)).push ((s.obj s.c.fun_).parts.getD i.a.toNat default))
   have hob:s.obj s.c.fun_=zAc s.all j:=by rw[f1];rfl
   rw[hob]
   refine zM4 nw h h0 (h.lay.part hj ?_) (by rw[e]) (by rw[e]) (by rw[e]) (by omega) (by omega)
   rw[qAD,qAB (by omega),qBY]
   exact qA8 _
 rw[if_neg c3]
 by_cases c4:i.op=4
 ·rw[if_pos c4]
  have e:eff con m i v=⟨0,1,decide (v.of>=0),true,false⟩:=by simp[eff,c4]
  exact zM4 nw h h0 h.lay.fun_ (by rw[e]) (by rw[e]) (by rw[e]) (by omega) (by omega)
 rw[if_neg c4]
 by_cases c5:i.op=5
 ·rw[if_pos c5]
  have e:eff con m i v=⟨i.a,0,true,true,false⟩:=by simp[eff,c5]
  have hA:=nw.behind (by rw[e])
  rw[e]at hfl hA
  rw[if_neg (by omega),if_neg (by omega)]at hA
  dsimp only at hA hfl
  exact zUM nw h h0 (n:=i.a.toNat) (a:=s.c.at_+1) (by omega) (by omega) (hA.trans (by congr 2;omega)) (by omega)
 rw[if_neg c5]
 by_cases c6:i.op=6
 ·rw[if_pos c6]
  have e:eff con m i v=⟨i.a+1,1,true,true,false⟩:=by simp[eff,c6]
  rw[e]at hfl
  change zA1 v<=v.height-(i.a+1)at hfl
  exact zUs nw h h0 (n:=i.a.toNat+1) (h.lay.stack (top_mem (s:=s) (by omega))) (by rw[e];show i.a+1=_;omega) (by rw[e]) (by rw[e]) (by omega) (by omega) (by omega)
 rw[if_neg c6]
 by_cases c7:i.op=7
 ·rw[if_pos c7];exact zZA nw h h0 false (by rw[c7];rfl)
 rw[if_neg c7]
 by_cases c8:i.op=8
 ·rw[if_pos c8];exact zZA nw h h0 true (by rw[c8];rfl)
 rw[if_neg c8]
 by_cases c9:i.op=9
 ·rw[if_pos c9];exact(zct nw h h0 c9).1
 rw[if_neg c9]
 by_cases c10:i.op=10
 ·rw[if_pos c10]
  have e:eff con m i v=⟨i.b,1,zGS con m i.a&&decide (i.b<=8),true,false⟩:=by simp[eff,c10]
  rw[e]at hhd hfl
  simp only[qAV,decide_eq_true_eq]at hhd
  change zA1 v<=v.height-i.b at hfl
  have hp:(s.goto (s.c.at_+1)).partsT i.b.toNat=s.stack.drop (s.stack.length-i.b.toNat):=rfl
  rw[hp]
  have hpl:(s.stack.drop (s.stack.length-i.b.toNat)).length=i.b.toNat:=by simp;omega
  have:=zYC hhd.1 a0
  exact zKd nw h h0 (n:=i.b.toNat) ⟨by simp,fun _=>this,by simp,by simp,by simp,by show (s.stack.drop _).length<=4000;rw[hpl];omega,⟨a0,a1⟩,fun r hr=>(h.lay.stack (qAo hr)).num⟩ (fun r hr=>qAo hr) (by rw[e];show i.b=_;omega) (by rw[e]) (by rw[e]) (by omega) (by omega)
 rw[if_neg c10]
 by_cases c18:i.op=18
 ·rw[if_pos c18]
  have e:eff con m i v=⟨i.b,1,true,true,false⟩:=by simp[eff,c18]
  rw[e]at hfl
  change zA1 v<=v.height-i.b at hfl
  have hp:(s.goto (s.c.at_+1)).partsT i.b.toNat=s.stack.drop (s.stack.length-i.b.toNat):=rfl
  rw[hp]
  have hpl:(s.stack.drop (s.stack.length-i.b.toNat)).length=i.b.toNat:=by simp;omega
  have h4:=h.high
  have hcl:=nw.clos c18
  exact zKd nw h h0 (n:=i.b.toNat) ⟨by simp,by simp,fun _=>by show A i.a.toNat=some ⟨i.a,((s.stack.drop (s.stack.length-i.b.toNat)).length:Nat),1,[]⟩;rw[hpl,hcl];congr 2;omega,by simp,by simp,by show (s.stack.drop _).length<=4000;rw[hpl];omega,⟨a0,a1⟩,fun r hr=>(h.lay.stack (qAo hr)).num⟩ (fun r hr=>qAo hr) (by rw[e];show i.b=_;omega) (by rw[e]) (by rw[e]) (by omega) (by omega)
 rw[if_neg c18]
 by_cases c12:i.op=12
 ·rw[if_pos c12];exact zag shw nw h h0 c12
 rw[if_neg c12]
 by_cases c17:i.op=17
 ·rw[if_pos c17];exact zcM nw h h0 c17
 rw[if_neg c17]
 by_cases c14:i.op=14
 ·rw[if_pos c14];exact(zWd nw h h0 c14).1
 rw[if_neg c14]
 by_cases c15:i.op=15
 ·rw[if_pos c15]
  have e:eff con m i v=⟨0,0,true,false,true⟩:=by simp[eff,c15]
  have hA:=nw.there (by rw[e])
  rw[e,if_neg (by omega),if_neg (by omega)]at hA
  exact zLf nw h h0 a0 (hA.trans (by congr 2;show v.height-0+0=v.height;omega))
 rw[if_neg c15]
 rw[zJE]
 by_cases c11:i.op=11
 ·rw[if_pos c11]
  have e:eff con m i v=⟨1,1,decide (i.a<=7),true,false⟩:=by simp[eff,c11]
  rw[e]at hfl
  change zA1 v<=v.height-1 at hfl
  have hv0:Val s (s.top 0):=h.lay.stack (top_mem (by omega))
  split
  ·exact .stop (h.lay.goto _) (by decide) (by decide)
  ·rename_i hk
   simp only[qBq,qBv,decide_eq_true_eq,not_or,Bool.not_eq_false]at hk
   rw[zPo,zJO]at hk
   obtain⟨j,hj1,hj,hkd,hoj,ov⟩:=h.lay.obj hv0 hk.1
   rw[zJO,hoj]
   rw[hoj]at hk
   refine zUs nw h h0 (n:=1) (h.lay.part hj ?_) (by rw[e];rfl) (by rw[e]) (by rw[e]) (by omega) (by omega) (by omega)
   rw[qAD,qAB (by omega),qBY]
   exact qA8 _
 rw[if_neg c11]
 by_cases c19:i.op=19
 ·rw[if_pos c19]
  have e:eff con m i v=⟨0,0,decide (v.height>=1)&&zGS con m i.b,true,true⟩:=by simp[eff,c19]
  have hA:=nw.behind (by rw[e])
  have hT:=nw.there (by rw[e])
  rw[e,if_neg (by omega),if_neg (by omega)]at hA hT
  split
  ·exact .stop (h.lay.goto _) (by decide) (by decide)
  ·split
   ·exact zLf nw h h0 a0 (hT.trans (by congr 2;show v.height-0+0=v.height;omega))
   ·exact zLf nw h h0 (by omega) (hA.trans (by congr 2;show v.height-0+0=v.height;omega))
 rw[if_neg c19]
 cases s.top 0 with
 |b j=>exact .stop (h.lay.goto _) (by decide) (by decide)
 |n x =>
  dsimp only
  by_cases c13:i.op=13
  ·rw[if_pos c13]
   have e:eff con m i v=⟨1,0,true,false,false⟩:=by simp[eff,c13]
   exact zM1 nw h h0 _ (by rw[e];show (1:Int)>=1;decide)
  rw[if_neg c13]
  by_cases c16:i.op=16
  ·rw[if_pos c16]
   have e:eff con m i v=⟨1,0,true,true,true⟩:=by simp[eff,c16]
   have hA:=nw.behind (by rw[e])
   have hT:=nw.there (by rw[e])
   rw[e,if_neg (by omega),if_neg (by omega)]at hA hT
   rw[e]at hfl
   change zA1 v<=v.height-1 at hfl
   split
   ·exact zUM nw h h0 (n:=1) (a:=i.a) a0 (by omega) (hT.trans (by congr 2;show v.height-1+0=v.height-((1:Nat):Int);omega)) (by omega)
   ·exact zUM nw h h0 (n:=1) (a:=s.c.at_+1) (by omega) (by omega) (hA.trans (by congr 2;show v.height-1+0=v.height-((1:Nat):Int);omega)) (by omega)
  rw[if_neg c16]
  have e:eff con m i v=⟨0,0,decide (v.height>=1)&&zIb m i.b,true,true⟩:=by
   unfold eff
   simp only[c0,c1,c2,c3,c4,c5,c6,c7,c8,c9,c10,c11,c12,c13,c14,c15,c16,c17,c18,c19,if_false]
  have hA:=nw.behind (by rw[e])
  have hT:=nw.there (by rw[e])
  rw[e,if_neg (by omega),if_neg (by omega)]at hA hT
  split
  ·exact zLf nw h h0 a0 (hT.trans (by congr 2;show v.height-0+0=v.height;omega))
  ·exact zLf nw h h0 (by omega) (hA.trans (by congr 2;show v.height-0+0=v.height;omega))
theorem MOk.start{w:Int}(hg:Good con m A)(hi:ImgOk m)(hw:0<=w): MOk con m A (start w) where
 good:=hg
 img:=hi
 fr:=.prog rfl (qBO 0) hg.zero rfl rfl ⟨List.Pairwise.nil,by simp,qBO 0⟩ ⟨rfl,fun k t x hk=>by simp[Go.Vm.start]at hk⟩
 lay:={ nodup:=List.nodup_nil,lt:=by simp[Go.Vm.start],roots:=by simp[Go.Vm.start,St.roots],closed:=by simp[Go.Vm.start,Closed],used:=rfl,nums:=by simp[Go.Vm.start,St.roots,zUd,Wn],objs:=by simp[Go.Vm.start],room:=hw,old:=by simp[Go.Vm.start] }
 high:=by simp[Go.Vm.start]
 deep:=by simp[Go.Vm.start]
end Go.Vm
namespace Go.Vm
variable {con:List UInt8->Bool}{m:Img}{A:Nat->Option VS}
def re(s:St)(w u:Int)(l:List Nat): St:={ s with words:=w,used:=u,ly:=l }
theorem MOk.more{s:St}(h:MOk con m A s): MOk con m A { s with steps:=s.steps+1 }:=⟨h.good,h.img,h.fr,h.lay.sub rfl rfl rfl rfl fun _ hr=>h.lay.val hr,h.high,h.deep⟩
end Go.Vm
namespace Go.Vm
def offL(all:List Thing): List Nat->Nat->Nat
 |[],_=>0
 |j::r,i=>if j=i then 0 else(zAc all j).need+offL all r i
def wdN(all:List Thing)(ly:List Nat): Rf->Nat
 | .n v=>((2*v+1)%18446744073709551616).toNat
 | .b i=>2*offL all ly i
def zFh: List UInt8->Nat
 |[]=>0
 |b::r=>b.toNat+256*zFh r
def zGr: Nat->List UInt8->List Nat
 |0,_=>[]
 |k+1,l=>zFh (l.take 8)::zGr k (l.drop 8)
def Thing.size(o:Thing): Nat:=o.need-1
def zDM(o:Thing): Nat:=o.tag.toNat*65536+o.size*8+o.kind.toNat
def zGU(all:List Thing)(ly:List Nat)(o:Thing): List Nat:=if o.kind=4 then zGr o.size o.text else o.parts.map (wdN all ly)
def zDU(all:List Thing)(ly:List Nat)(i:Nat): List Nat:=zDM (zAc all i)::zGU all ly (zAc all i)
def zCG(all:List Thing)(ly:List Nat): List Nat:=ly.flatMap (zDU all ly)
def begL(all:List Thing)(ly:List Nat)(size:Nat): List Bool:=(ly.flatMap fun i=>true::List.replicate (zAc all i).size false)++List.replicate (size-sumN all ly) false
variable {m:Img}{A:Nat->Option VS}
theorem zHP(o:Thing): 1<=o.need:=by unfold Thing.need;split <;> omega
theorem zD7(o:Thing): o.need=o.size+1:=by have:=zHP o;unfold Thing.size;omega
theorem zEY: ∀(k:Nat) (l:List UInt8),(zGr k l).length=k
 |0,_=>rfl
 |k+1,l=>by rw[zGr,qAN,zEY k]
theorem zNZ{all:List Thing}{ly:List Nat}{o:Thing}: (zGU all ly o).length=o.size:=by
 unfold zGU
 split
 ·exact zEY _ _
 ·rename_i h4
  rw[qAC];unfold Thing.size Thing.need;rw[if_neg h4];omega
theorem zDf(all:List Thing)(ly:List Nat)(i:Nat): (zDU all ly i).length=(zAc all i).need:=by
 unfold zDU;rw[qAN,zNZ,zD7]
theorem zDq(all:List Thing)(i:Nat)(l:List Nat): sumN all (i::l)=(zAc all i).need+sumN all l:=by
 unfold sumN;rw[qAr,List.sum_cons];rfl
theorem zFS(all:List Thing)(ly:List Nat): (zCG all ly).length=sumN all ly:=by
 unfold zCG
 suffices ∀l:List Nat,(l.flatMap (zDU all ly)).length=sumN all l from this ly
 intro l
 induction l with
 |nil=>rfl
 |cons i r ih=>rw[qAf,qAE,ih,zDf,zDq]
theorem zOR{all:List Thing}: ∀{ly:List Nat} {i:Nat},i∈ly->offL all ly i+(zAc all i).need<=sumN all ly
 |j::r,i,h=>by
  rw[offL,zDq]
  by_cases hj:j=i
  ·subst hj;rw[if_pos rfl];omega
  ·rw[if_neg hj]
   have:=zOR (all:=all) (ly:=r) ((qBL.1 h).resolve_left fun e=>hj e.symm)
   omega
theorem zPB{all:List Thing}{f:Nat->List Nat}(hf:∀i,(f i).length=(zAc all i).need): ∀{ly:List Nat} {i k:Nat},i∈ly->k<(zAc all i).need->(ly.flatMap f)[offL all ly i+k]?=(f i)[k]?
 |j::r,i,k,h,hk=>by
  rw[qAf,offL]
  by_cases hj:j=i
  ·subst hj;rw[if_pos rfl,qAY,qAI (by rw[hf];exact hk)]
  ·rw[if_neg hj,qAJ (by rw[hf];omega),hf]
   rw[show (zAc all j).need+offL all r i+k-(zAc all j).need=offL all r i+k by omega]
   exact zPB hf ((qBL.1 h).resolve_left fun e=>hj e.symm) hk
theorem zLp(all:List Thing)(ly:List Nat){size:Nat}(h:sumN all ly<=size): (begL all ly size).length=size:=by
 unfold begL
 rw[qAE,qAp]
 suffices ∀l:List Nat,(l.flatMap fun i=>true::List.replicate (zAc all i).size false).length=sumN all l by rw[this];omega
 intro l
 induction l with
 |nil=>rfl
 |cons i r ih=>rw[qAf,qAE,ih,zDq,qAN,qAp,zD7]
theorem zLq{all:List Thing}{ly:List Nat}{size i:Nat}(h:i∈ly): (begL all ly size)[offL all ly i]?=some true:=by
 have h1:=at_off' (all:=all) (ly:=ly) (i:=i) h
 unfold begL
 rw[qAI (by
  have:=(qAA.1 h1).1;exact this)]
 exact h1
where
 at_off':∀{all:List Thing} {ly:List Nat} {i:Nat},i∈ly->(ly.flatMap fun i=>true::List.replicate (zAc all i).size false)[offL all ly i]?=some true:=by
  intro all ly
  induction ly with
  |nil=>intro i h;simp at h
  |cons j r ih =>
   intro i h
   rw[qAf,offL]
   by_cases hj:j=i
   ·rw[if_pos hj];rfl
   ·rw[if_neg hj,qAJ (by simp[zD7])]
    rw[show (zAc all j).need+offL all r i-(true::List.replicate (zAc all j).size false).length=offL all r i by simp[zD7]]
    exact ih ((qBL.1 h).resolve_left fun e=>hj e.symm)
end Go.Vm
namespace Go.Vm
open Go.Sx
theorem zEU(n:Int): IntKind.u64.wrap n=n%18446744073709551616:=by simp[IntKind.wrap,IntKind.bits,IntKind.signed]
theorem zId(n:Int): IntKind.i64.wrap n=(n+9223372036854775808)%18446744073709551616-9223372036854775808:=by
 simp[IntKind.wrap,IntKind.bits,IntKind.signed];split <;> omega
abbrev w64(n:Nat): D:=.val (.int .u64 (n:Int))
theorem zKn{x:Int}{n:Nat}(h:x=(n:Int)): D.val (.int .u64 x)=w64 n:=by rw[h]
theorem zbn{a b:Nat}(ha:a<18446744073709551616)(hb:b<18446744073709551616): IntKind.u64.wrap (BitVec.ofInt IntKind.u64.bits (a:Int) &&& BitVec.ofInt IntKind.u64.bits (b:Int)).toNat=((a &&& b:Nat):Int):=by
 have h:(BitVec.ofInt 64 (a:Int) &&& BitVec.ofInt 64 (b:Int)).toNat=a &&& b:=by
  rw[BitVec.toNat_and]
  congr 1
  ·rw[BitVec.toNat_ofInt];omega
  ·rw[BitVec.toNat_ofInt];omega
 have h2:a &&& b<=a:=Nat.and_le_left
 show IntKind.u64.wrap (BitVec.ofInt 64 (a:Int) &&& BitVec.ofInt 64 (b:Int)).toNat=_
 rw[h,zEU];omega
theorem or64{a b:Nat}(ha:a<18446744073709551616)(hb:b<18446744073709551616): IntKind.u64.wrap (BitVec.ofInt IntKind.u64.bits (a:Int) ||| BitVec.ofInt IntKind.u64.bits (b:Int)).toNat=((a ||| b:Nat):Int):=by
 have h:(BitVec.ofInt 64 (a:Int) ||| BitVec.ofInt 64 (b:Int)).toNat=a ||| b:=by
  rw[BitVec.toNat_or]
  congr 1
  ·rw[BitVec.toNat_ofInt];omega
  ·rw[BitVec.toNat_ofInt];omega
 have h2:a ||| b<2 ^ 64:=Nat.or_lt_two_pow ha hb
 show IntKind.u64.wrap (BitVec.ofInt 64 (a:Int) ||| BitVec.ofInt 64 (b:Int)).toNat=_
 rw[h,zEU];omega
theorem zfA(a:Nat): a &&& 1=a%2:=Nat.and_one_is_mod a
theorem ze9(a:Nat): a &&& 7=a%8:=Nat.and_two_pow_sub_one_eq_mod a 3
theorem zdn(a:Nat): a &&& 8191=a%8192:=Nat.and_two_pow_sub_one_eq_mod a 13
theorem or_1(a:Nat): (2*a) ||| 1=2*a+1:=by
 have:=Nat.two_pow_add_eq_or_of_lt (b:=1) (i:=1) (by decide) a
 simpa using this.symm
theorem zQT(all:List Thing)(ly:List Nat)(v:Int): wdN all ly (.n v)%2=1/\wdN all ly (.n v)<18446744073709551616:=by
 simp only[wdN];omega
theorem zZX(all:List Thing)(ly:List Nat)(i:Nat): wdN all ly (.b i)%2=0:=by simp only[wdN];omega
theorem zXZ(all:List Thing)(ly:List Nat)(n:Int): (((((Wn n)%18446744073709551616*2)%18446744073709551616).toNat ||| 1:Nat):Int)=(wdN all ly (numR n):Int):=by
 have h:∃k:Nat,((Wn n)%18446744073709551616*2)%18446744073709551616=((2*k:Nat):Int):=⟨(((Wn n)%18446744073709551616*2)%18446744073709551616 / 2).toNat,by omega⟩
 obtain⟨k,hk⟩:=h
 rw[hk,qAn,or_1]
 simp only[wdN,numR]
 omega
theorem zSd(all:List Thing)(ly:List Nat){v:Int}(h:Wn v=v): (((wdN all ly (.n v):Int)+9223372036854775808)%18446744073709551616-9223372036854775808).fdiv 2=v:=by
 unfold Wn at h
 rw[qBi _ (by decide)]
 simp only[wdN]
 omega
structure HeadOk(o:Thing): Prop where
 kind:1<=o.kind/\o.kind<=4
 tag:0<=o.tag/\o.tag<=1048576
 size:o.size<=8191
theorem zUz{o:Thing}(h:HeadOk o): zDM o%8=o.kind.toNat/\zDM o / 65536=o.tag.toNat/\zDM o / 8%8192=o.size/\zDM o<18446744073709551616:=by
 obtain⟨⟨h1,h2⟩,⟨h3,h4⟩,h5⟩:=h
 unfold zDM
 omega
theorem zbD{o:Thing}(h:HeadOk o): (o.tag.toNat*65536 ||| o.size*8) ||| o.kind.toNat=zDM o:=by
 obtain⟨⟨h1,h2⟩,⟨h3,h4⟩,h5⟩:=h
 have e1:o.tag.toNat*65536 ||| o.size*8=o.tag.toNat*65536+o.size*8:=by
  have:=Nat.two_pow_add_eq_or_of_lt (b:=o.size*8) (i:=16) (by omega) o.tag.toNat
  rw[Nat.mul_comm]at this;exact this.symm
 have e2:(o.tag.toNat*65536+o.size*8) ||| o.kind.toNat=zDM o:=by
  have:=Nat.two_pow_add_eq_or_of_lt (b:=o.kind.toNat) (i:=3) (by omega) (o.tag.toNat*8192+o.size)
  rw[show 2 ^ 3*(o.tag.toNat*8192+o.size)=o.tag.toNat*65536+o.size*8 by omega]at this
  exact this.symm
 rw[e1,e2]
end Go.Vm
namespace Go.Vm
theorem zKY{all:List Thing}{m:List Nat}: ∀{l:List Nat} {i:Nat},i∈l->offL all (l++m) i=offL all l i
 |j::r,i,h=>by
  rw[qBk,offL,offL]
  by_cases hj:j=i
  ·rw[if_pos hj,if_pos hj]
  ·rw[if_neg hj,if_neg hj,zKY ((qBL.1 h).resolve_left fun e=>hj e.symm)]
theorem zKX{all:List Thing}: ∀{l:List Nat} {i:Nat},i∉l->offL all (l++[i]) i=sumN all l
 |[],i,_=>by simp[offL,sumN]
 |j::r,i,h=>by
  rw[qBk,offL,zDq,if_neg (fun e=>h (by simp[e])),zKX (fun c=>h (qAi _ c))]
def In(l:List Nat)(r:Rf): Prop:=∀i,r=.b i->i∈l
theorem zZZ{all:List Thing}{l m:List Nat}{r:Rf}(h:In l r): wdN all (l++m) r=wdN all l r:=by
 cases r with
 |n v=>rfl
 |b i=>rw[wdN,wdN,zKY (h i rfl)]
theorem zZY{all:List Thing}{l l':List Nat}(hp:l <+: l'){r:Rf}(h:In l r): wdN all l' r=wdN all l r:=by
 obtain⟨m,rfl⟩:=hp;exact zZZ h
theorem In.pre{l l':List Nat}(hp:l <+: l'){r:Rf}(h:In l r): In l' r:=fun i e=>hp.subset (h i e)
theorem zNj(l:List Nat)(rs:List Rf){r:Rf}(h:r∈rs): In (addN l rs) r:=fun i e=>(zF3 i rs l).2 (.inr (e▸h))
theorem zNE{all:List Thing}{l l':List Nat}(hp:l <+: l'){rs:List Rf}(h:∀r∈rs,In l r): rs.map (wdN all l')=rs.map (wdN all l):=qBg fun r hr=>zZY hp (h r hr)
theorem zKh(l:List Nat)(r:Rf): addN l [r]=match r with
  | .n _=>l
  | .b i=>if i∈l then l else l++[i]:=by
 cases r with
 |n v=>rfl
 |b i =>
  rw[addN]
  by_cases h:i∈l
  ·rw[if_pos h];show l=if i∈l then l else l++[i];rw[if_pos h]
  ·rw[if_neg h];show l++[i]=if i∈l then l else l++[i];rw[if_neg h]
theorem addN_take{l:List Nat}{rs:List Rf}{i:Nat}{r:Rf}(h:rs[i]?=some r): addN l (rs.take (i+1))=addN (addN l (rs.take i)) [r]:=by
 rw[qA7,h,Option.toList_some,addN_app]
def fwdN(all:List Thing)(ly ord:List Nat)(i:Nat): List Nat:=(if i∈ord then offL all ord i*8 else zDM (zAc all i))::zGU all ly (zAc all i)
def nowM(all:List Thing)(ly ord:List Nat): List Nat:=ly.flatMap (fwdN all ly ord)
theorem zNQ(all:List Thing)(ly ord:List Nat)(i:Nat): (fwdN all ly ord i).length=(zAc all i).need:=by
 unfold fwdN;rw[qAN,zNZ,zD7]
theorem zQ2(all:List Thing)(ly:List Nat): nowM all ly []=zCG all ly:=by
 unfold nowM zCG fwdN zDU;simp
theorem zF0{all:List Thing}{f:Nat->List Nat}(hf:∀i,(f i).length=(zAc all i).need)(l:List Nat): (l.flatMap f).length=sumN all l:=by
 induction l with
 |nil=>rfl
 |cons i r ih=>rw[qAf,qAE,ih,hf,zDq]
theorem zXa(all:List Thing)(ly ord:List Nat): (nowM all ly ord).length=sumN all ly:=zF0 (zNQ all ly ord) ly
theorem zUf{all:List Thing}{ly ord:List Nat}{i k:Nat}(h:i∈ly)(hk:k<(zAc all i).need): (nowM all ly ord)[offL all ly i+k]?=(fwdN all ly ord i)[k]?:=zPB (zNQ all ly ord) h hk
theorem zRL{all:List Thing}{f g:Nat->List Nat}(hf:∀i,(f i).length=(zAc all i).need){x i:Nat}: ∀{l:List Nat},l.Nodup->i∈l->(∀j∈l,j≠i->g j=f j)->g i=(f i).set 0 x->(l.flatMap f).set (offL all l i) x=l.flatMap g
 |j::r,hn,hi,hg,he=>by
  rw[List.nodup_cons]at hn
  rw[qAf,qAf,offL]
  have hpos:0<(f j).length:=by rw[hf];exact zHP _
  by_cases hj:j=i
  ·subst hj
   rw[if_pos rfl,List.set_append_left _ _ hpos,he]
   congr 1
   have:∀l:List Nat,j∉l->(∀k∈l,k≠j->g k=f k)->l.flatMap f=l.flatMap g:=fun l=>by
    induction l with
    |nil=>intros;rfl
    |cons a t ih =>
     intro h1 h2
     rw[qAf,qAf,h2 a (by simp) (fun e=>h1 (by simp[e])),ih (fun c=>h1 (qAi _ c)) (fun k hk=>h2 k (qAi _ hk))]
   exact this r hn.1 fun k hk=>hg k (qAi _ hk)
  ·have hi':=(qBL.1 hi).resolve_left fun e=>hj e.symm
   rw[if_neg hj,qBX _ _ (by rw[hf];omega),hf,Nat.add_sub_cancel_left,hg j (by simp) hj]
   congr 1
   exact zRL hf hn.2 hi' (fun k hk=>hg k (qAi _ hk)) he
theorem zUe{all:List Thing}{ly ord:List Nat}{i:Nat}(hn:ly.Nodup)(hi:i∈ly)(ho:i∉ord): (nowM all ly ord).set (offL all ly i) (sumN all ord*8)=nowM all ly (ord++[i]):=by
 unfold nowM
 refine zRL (zNQ all ly ord) hn hi (fun j hj hne=>?_) ?_
 ·unfold fwdN
  by_cases h:j∈ord
  ·rw[if_pos (qAm _ h),if_pos h,zKY h]
  ·rw[if_neg h,if_neg (by simp[h,hne])]
 ·unfold fwdN
  rw[if_pos (by simp),if_neg ho,zKX ho];rfl
theorem zHt(all:List Thing)(l m:List Nat): sumN all (l++m)=sumN all l+sumN all m:=by
 unfold sumN;rw[qAU,List.sum_append]
theorem zMx(all:List Thing)(i:Nat): sumN all [i]=(zAc all i).need:=by rw[zDq];simp[sumN]
theorem zUk{all:List Thing}{ly ord:List Nat}{i:Nat}(hn:ord.Nodup)(hs:∀j∈ord,j∈ly)(hi:i∈ly)(ho:i∉ord): sumN all ord+(zAc all i).need<=sumN all ly:=by
 have:=zGd (all:=all) (l:=ord++[i]) (m:=ly) (List.nodup_append.2 ⟨hn,by simp,fun a ha b hb e=>by rw[qAM]at hb;subst hb;subst e;exact ho ha⟩) (fun j hj=>by
  rcases qAc.1 hj with h|h
  ·exact hs j h
  ·rw[qAM]at h;rw[h];exact hi)
 rw[zHt,zMx]at this;exact this
def othM(all:List Thing)(ly ord:List Nat)(k:Nat): List Nat:=(ord.take k).flatMap (zDU all ord)++(ord.drop k).flatMap (zDU all ly)
theorem zNA(all:List Thing)(ly ord:List Nat)(k:Nat): (othM all ly ord k).length=sumN all ord:=by
 unfold othM
 rw[qAE,zF0 (zDf all ord),zF0 (zDf all ly),<-zHt,qBV]
theorem zXW(all:List Thing)(ly ord:List Nat): othM all ly ord ord.length=zCG all ord:=by
 unfold othM zCG;simp
theorem zO5{all:List Thing}{l l':List Nat}(hp:l <+: l'){i:Nat}(h:(zAc all i).kind≠4->∀r∈(zAc all i).parts,In l r): zDU all l' i=zDU all l i:=by
 unfold zDU zGU
 split
 ·rfl
 ·rename_i h4;rw[zNE hp (h h4)]
theorem zJ3{α β:Type}{f g:α->List β}: ∀{l:List α},(∀x∈l,f x=g x)->l.flatMap f=l.flatMap g
 |[],_=>rfl
 |a::r,h=>by rw[qAf,qAf,h a (by simp),zJ3 fun x hx=>h x (qAi _ hx)]
theorem zXV{all:List Thing}{ly ord:List Nat}{k i:Nat}(hk:k<=ord.length)(hc:∀j∈ord.take k,∀r∈(zAc all j).parts,In ord r): othM all ly ord k++zDU all ly i=othM all ly (ord++[i]) k:=by
 unfold othM
 rw[qBJ hk,List.drop_append_of_le_length hk,List.flatMap_append,qAg]
 congr 1
 ·refine zJ3 fun j hj=>?_
  exact(zO5 (List.prefix_append _ _) fun _=>hc j hj).symm
 ·simp
structure CS where
 of:Int
 height:Int
 tries:List Int
 deriving DecidableEq
structure CK where
 at_:List (Option CS)
 has:List (Int×Int)
 work:List Int
 bad:Bool
def getI: List (Int×Int)->Int->Int
 |[],_=>0
 |(a,b)::r,k=>if a=k then b else getI r k
def putI: List (Int×Int)->Int->Int->List (Int×Int)
 |[],k,v=>[(k,v)]
 |(a,b)::r,k,v=>if a=k then(a,v)::r else(a,b)::putI r k v
theorem zKa: ∀(L:List (Int×Int)) (k v q:Int),getI (putI L k v) q=if k=q then v else getI L q
 |[],k,v,q=>by rw[putI,getI,getI,getI]
 |(a,b)::r,k,v,q=>by
  rw[putI]
  by_cases h:a=k
  ·subst h
   rw[if_pos rfl,getI,getI]
   by_cases h2:a=q
   ·rw[if_pos h2,if_pos h2]
   ·rw[if_neg h2,if_neg h2,if_neg h2]
  ·rw[if_neg h,getI,getI,zKa r k v q]
   by_cases h2:a=q
   ·rw[if_pos h2,if_pos h2,if_neg (fun e=>h (h2.trans e.symm))]
   ·rw[if_neg h2,if_neg h2]
def CK.come(c:CK)(k:Int)(s:CS): CK:=match c.at_[k.toNat]? with
 |none=>{ c with bad:=true }
 |some none=>{ c with at_:=c.at_.set k.toNat (some s),work:=c.work++[k] }
 |some (some s')=>if s'=s then c else { c with bad:=true }
def CK.begin(c:CK)(k n:Int): CK:=if getI c.has k>0/\getI c.has k≠n+1 then { c with bad:=true }else({ c with has:=putI c.has k (n+1) }:CK).come k ⟨k,1,[]⟩
def CK.stepC(c:CK)(s:CS)(fl takes puts:Int)(holds:Bool)(tw:List Int): CK :=
 if !holds||decide (s.height-takes<fl)then { c with bad:=true }else tw.foldl (fun c t=>c.come t ⟨s.of,s.height-takes+puts,s.tries⟩) c
def fullV(c:CK)(s:CS): VS:=⟨s.of,if s.of = -1 then 0 else getI c.has s.of-1,s.height,s.tries⟩
def CK.doC(con:List UInt8->Bool)(m:Img)(c:CK)(k:Int)(s:CS): CK :=
 let i:=m.code.getD k.toNat default
 let v:=fullV c s
 let e:=eff con m i v
 let fl:=zA1 v
 if i.op=14 then(if s.tries.isEmpty then { c with bad:=true }else c.stepC { s with tries:=s.tries.dropLast } 0 0 0 true [k+1])
 else if i.op=17 then(c.stepC s fl 0 1 true [i.a]).come (k+1) ⟨s.of,s.height,s.tries++[s.height]⟩
 else if i.op=18 then(c.stepC s fl i.b 1 true [k+1]).begin i.a i.b
 else c.stepC s fl e.takes e.puts e.holds ((if e.there then[i.a]else[])++(if e.behind then[k+1]else[]))
structure CInv(m:Img)(c:CK): Prop where
 len:c.at_.length=m.code.length
 of:∀(k:Nat) (s:CS),c.at_[k]?=some (some s)->s.of = -1\/(0<=s.of/\0<getI c.has s.of)
 tr:∀(k:Nat) (s:CS),c.at_[k]?=some (some s)->TrOk (fullV c s)
 has:∀f,getI c.has f≠0->0<=f/\0<getI c.has f
 work:∀k∈c.work,0<=k/\∃s,c.at_[k.toNat]?=some (some s)
structure Ext(c d:CK): Prop where
 len:d.at_.length=c.at_.length
 at_:∀(k:Nat) (s:CS),c.at_[k]?=some (some s)->d.at_[k]?=some (some s)
 has:∀f,getI c.has f≠0->getI d.has f=getI c.has f
 bad:d.bad=false->c.bad=false
 work:∀(k:Nat) (s:CS),d.at_[k]?=some (some s)->(k:Int)∉d.work->c.at_[k]?=some (some s)/\(k:Int)∉c.work
theorem Ext.refl(c:CK): Ext c c:=⟨rfl,fun _ _ h=>h,fun _ _=>rfl,fun h=>h,fun _ _ h h2=>⟨h,h2⟩⟩
theorem Ext.trans{a b c:CK}(h:Ext a b)(k:Ext b c): Ext a c :=
 ⟨k.len.trans h.len,fun q s hq=>k.at_ q s (h.at_ q s hq),fun f hf=>by rw[k.has f (by rw[h.has f hf];exact hf),h.has f hf],fun hb=>h.bad (k.bad hb),fun q s hq hw=>by obtain⟨h1,h2⟩:=k.work q s hq hw;exact h.work q s h1 h2⟩
theorem zED{c d:CK}(h:Ext c d){s:CS}(hs:s.of = -1\/(0<=s.of/\0<getI c.has s.of)): fullV d s=fullV c s:=by
 unfold fullV
 by_cases h1:s.of = -1
 ·rw[if_pos h1,if_pos h1]
 ·rw[if_neg h1,if_neg h1,h.has s.of (by rcases hs with h2|h2;exact absurd h2 h1;omega)]
theorem zJc{m:Img}{c:CK}(hc:CInv m c){k:Int}{s:CS}(hk:0<=k)(hs:s.of = -1\/(0<=s.of/\0<getI c.has s.of))(ht:TrOk (fullV c s)):
  Ext c (c.come k s)/\CInv m (c.come k s)/\((c.come k s).bad=false->(c.come k s).at_[k.toNat]?=some (some s)):=by
 unfold CK.come
 cases h:c.at_[k.toNat]? with
 |none=>exact⟨⟨rfl,fun _ _ h=>h,fun _ _=>rfl,(fun c=>by cases c),fun _ _ h h2=>⟨h,h2⟩⟩,⟨hc.len,hc.of,hc.tr,hc.has,hc.work⟩,fun c=>by cases c⟩
 |some o =>
  have hl:=(qAA.1 h).1
  cases o with
  |none =>
   have hne:∀(q:Nat) (x:CS),c.at_[q]?=some (some x)->q≠k.toNat:=fun q x hq e=>by rw[e,h]at hq;cases hq
   have hat:∀(q:Nat),(c.at_.set k.toNat (some s))[q]?=if k.toNat=q then some (some s)else c.at_[q]?:=fun q=>by
    rw[qAX]
    by_cases e:k.toNat=q
    ·rw[if_pos e,if_pos e,if_pos hl]
    ·rw[if_neg e,if_neg e]
   refine⟨⟨by simp,fun q x hq=>by show (c.at_.set k.toNat (some s))[q]?=_;rw[hat,if_neg (Ne.symm (hne q x hq))];exact hq,fun _ _=>rfl,fun h=>h,fun q x hq hw=>?_⟩,⟨by simp[hc.len],fun q x hq=>?_,fun q x hq=>?_,hc.has,fun q hq=>?_⟩,fun _=>by show (c.at_.set k.toNat (some s))[k.toNat]?=_;rw[hat,if_pos rfl]⟩
   ·change (c.at_.set k.toNat (some s))[q]?=some (some x)at hq
    rw[hat]at hq
    by_cases e:k.toNat=q
    ·exact absurd (qBe c.work (by rw[<-e];simp;omega)) hw
    ·rw[if_neg e]at hq;exact⟨hq,fun c=>hw (qAm _ c)⟩
   ·change (c.at_.set k.toNat (some s))[q]?=some (some x)at hq
    rw[hat]at hq
    split at hq
    ·injection hq with hq;injection hq with hq;subst hq;exact hs
    ·exact hc.of q x hq
   ·change (c.at_.set k.toNat (some s))[q]?=some (some x)at hq
    rw[hat]at hq
    split at hq
    ·injection hq with hq;injection hq with hq;subst hq;exact ht
    ·exact hc.tr q x hq
   ·rcases qAc.1 (show q∈c.work++[k]from hq)with h1|h1
    ·obtain⟨h2,x,h3⟩:=hc.work q h1
     exact⟨h2,x,by show (c.at_.set k.toNat (some s))[q.toNat]?=_;rw[hat,if_neg (Ne.symm (hne _ x h3))];exact h3⟩
    ·rw[qAM]at h1;subst h1
     exact⟨hk,s,by show (c.at_.set q.toNat (some s))[q.toNat]?=_;rw[hat,if_pos rfl]⟩
  |some x =>
   dsimp only
   by_cases e:x=s
   ·subst e;rw[if_pos rfl];exact⟨.refl c,hc,fun _=>h⟩
   ·rw[if_neg e]
    exact⟨⟨rfl,fun _ _ h=>h,fun _ _=>rfl,(fun c=>by cases c),fun _ _ h h2=>⟨h,h2⟩⟩,⟨hc.len,hc.of,hc.tr,hc.has,hc.work⟩,fun c=>by cases c⟩
theorem zVa{m:Img}{c:CK}(hc:CInv m c){k n:Int}(hk:0<=k)(hn:0<=n):
  Ext c (c.begin k n)/\CInv m (c.begin k n)/\((c.begin k n).bad=false->(c.begin k n).at_[k.toNat]?=some (some ⟨k,1,[]⟩)/\getI (c.begin k n).has k=n+1):=by
 unfold CK.begin
 split
 ·exact⟨⟨rfl,fun _ _ h=>h,fun _ _=>rfl,(fun c=>by cases c),fun _ _ h h2=>⟨h,h2⟩⟩,⟨hc.len,hc.of,hc.tr,hc.has,hc.work⟩,fun c=>by cases c⟩
 ·rename_i hb
  have hgp:∀q,getI (putI c.has k (n+1)) q=if k=q then n+1 else getI c.has q:=zKa c.has k (n+1)
  have hkeep:∀f,getI c.has f≠0->getI (putI c.has k (n+1)) f=getI c.has f:=fun f hf=>by
   rw[hgp]
   split
   ·rename_i e;subst e
    have:=hc.has k hf
    have:¬(getI c.has k>0/\getI c.has k≠n+1):=hb
    omega
   ·rfl
  have e1:Ext c { c with has:=putI c.has k (n+1) }:=⟨rfl,fun _ _ h=>h,hkeep,fun h=>h,fun _ _ h h2=>⟨h,h2⟩⟩
  have c1:CInv m { c with has:=putI c.has k (n+1) }:=by
   refine⟨hc.len,fun q x hq=>?_,fun q x hq=>?_,fun f hf=>?_,hc.work⟩
   ·rcases hc.of q x hq with h|h
    ·exact .inl h
    ·exact .inr ⟨h.1,by show 0<getI (putI c.has k (n+1)) x.of;rw[hkeep x.of (by omega)];exact h.2⟩
   ·rw[zED e1 (hc.of q x hq)];exact hc.tr q x hq
   ·change getI (putI c.has k (n+1)) f≠0 at hf
    show 0<=f/\0<getI (putI c.has k (n+1)) f
    rw[hgp]at hf ⊢
    split
    ·rename_i e;subst e;exact⟨hk,by omega⟩
    ·rename_i e;rw[if_neg e]at hf;exact hc.has f hf
  have h0:getI ({ c with has:=putI c.has k (n+1) }:CK).has k=n+1:=by show getI (putI c.has k (n+1)) k=_;rw[hgp,if_pos rfl]
  obtain⟨h1,h2,h3⟩:=zJc c1 (k:=k) (s:=⟨k,1,[]⟩) hk (.inr ⟨hk,by rw[h0];omega⟩) ⟨List.Pairwise.nil,by simp[fullV],by show (0:Int)<=1;decide⟩
  exact⟨e1.trans h1,h2,fun hbad=>⟨h3 hbad,by rw[h1.has k (by rw[h0];omega),h0]⟩⟩
theorem zLm{m:Img}{s:CS}: ∀(tw:List Int) {c:CK},CInv m c->(∀t∈tw,0<=t)->(s.of = -1\/(0<=s.of/\0<getI c.has s.of))->TrOk (fullV c s)->
  Ext c (tw.foldl (fun c t=>c.come t s) c)/\CInv m (tw.foldl (fun c t=>c.come t s) c)/\((tw.foldl (fun c t=>c.come t s) c).bad=false->∀t∈tw,(tw.foldl (fun c t=>c.come t s) c).at_[t.toNat]?=some (some s))
 |[],c,hc,_,_,_=>⟨.refl c,hc,fun _ t ht=>by simp at ht⟩
 |t::r,c,hc,h0,hs,ht=>by
  obtain⟨h1,h2,h3⟩:=zJc hc (h0 t (by simp)) hs ht
  have hs':s.of = -1\/(0<=s.of/\0<getI (c.come t s).has s.of):=hs.imp_right fun h=>⟨h.1,by rw[h1.has s.of (by omega)];exact h.2⟩
  obtain⟨k1,k2,k3⟩:=zLm r h2 (fun x hx=>h0 x (qAi _ hx)) hs' (by rw[zED h1 hs];exact ht)
  refine⟨h1.trans k1,k2,fun hb x hx=>?_⟩
  rcases qBL.1 hx with rfl|hx
  ·exact k1.at_ _ _ (h3 (k1.bad hb))
  ·exact k3 hb x hx
variable {con:List UInt8->Bool}{m:Img}{A:Nat->Option VS}
theorem zHL{c:CK}(hc:CInv m c){s:CS}{fl takes puts:Int}{holds:Bool}{tw:List Int}(h0:∀t∈tw,0<=t)(hs:s.of = -1\/(0<=s.of/\0<getI c.has s.of))(ht:TrOk (fullV c s))(hf:zA1 (fullV c s)<=fl\/zA1 (fullV c s)<=s.height-takes)(hp:0<=puts):
  Ext c (c.stepC s fl takes puts holds tw)/\CInv m (c.stepC s fl takes puts holds tw)/\((c.stepC s fl takes puts holds tw).bad=false->holds=true/\fl<=s.height-takes/\∀t∈tw,(c.stepC s fl takes puts holds tw).at_[t.toNat]?=some (some ⟨s.of,s.height-takes+puts,s.tries⟩)):=by
 unfold CK.stepC
 split
 ·exact⟨⟨rfl,fun _ _ h=>h,fun _ _=>rfl,(fun c=>by cases c),fun _ _ h h2=>⟨h,h2⟩⟩,⟨hc.len,hc.of,hc.tr,hc.has,hc.work⟩,fun c=>by cases c⟩
 ·rename_i hh
  simp only[qBq,qBv,decide_eq_true_eq,not_or]at hh
  have hfl:fl<=s.height-takes:=by omega
  have htr:TrOk (fullV c ⟨s.of,s.height-takes+puts,s.tries⟩):=ht.tw (h:=s.height-takes+puts) (by rcases hf with h|h <;> omega)
  obtain⟨h1,h2,h3⟩:=zLm (s:=⟨s.of,s.height-takes+puts,s.tries⟩) tw hc h0 hs htr
  exact⟨h1,h2,fun hb=>⟨by simpa using hh.1,hfl,h3 hb⟩⟩
theorem zYy{a b:Eff}{c:Prop}[Decidable c](ha:0<=a.puts)(hb:0<=b.puts): 0<=(if c then a else b).puts:=by split <;> assumption
theorem zKD{c:CK}(hc:CInv m c){k:Int}{x:CS}(h:c.at_[k.toNat]?=some (some x)): k.toNat<m.code.length:=by
 have:=(qAA.1 h).1;rw[hc.len]at this;exact this
theorem zep(him:ImgOk m){c:CK}(hc:CInv m c){k:Int}{s:CS}(hk:0<=k)(hat:c.at_[k.toNat]?=some (some s)):
  Ext c (c.doC con m k s)/\CInv m (c.doC con m k s)/\((c.doC con m k s).bad=false->∃l,zGs con m k.toNat (fullV c s)=some l/\∀p∈l,0<=p.1/\∃x,(c.doC con m k s).at_[p.1.toNat]?=some (some x)/\fullV (c.doC con m k s) x=p.2):=by
 have hs:=hc.of _ _ hat
 have ht:=hc.tr _ _ hat
 have hlt:=zKD hc hat
 obtain⟨i,hi⟩:∃i,m.code[k.toNat]?=some i:=⟨_,qAB hlt⟩
 have hg:m.code.getD k.toNat default=i:=by rw[qAD,hi];rfl
 obtain⟨o0,o20,a0,a1,b0,b1,hgo⟩:=him.ins i (qAF hi)
 have hv:(fullV c s).height=s.height/\(fullV c s).tries=s.tries/\(fullV c s).of=s.of:=⟨rfl,rfl,rfl⟩
 have hfloor:zA1 (fullV c s)<=s.height:=by
  cases hq:s.tries.getLast? with
  |none =>have:zA1 (fullV c s)=0:=by unfold zA1;rw[hv.2.1,hq];rfl
          have:=ht.nn;omega
  |some x=>rw[zEu (v:=fullV c s) (h:=x) hq];exact(ht.le x (qBc hq)).2
 have hk1:(k+1).toNat=k.toNat+1:=by omega
 unfold CK.doC zGs
 dsimp only
 rw[hg]
 by_cases c14:i.op=14
 ·rw[if_pos c14]
  have e:eff con m i (fullV c s)=⟨0,0, !s.tries.isEmpty,true,false⟩:=by simp[eff,c14,fullV]
  rw[e]
  split
  ·exact⟨⟨rfl,fun _ _ h=>h,fun _ _=>rfl,(fun c=>by cases c),fun _ _ h h2=>⟨h,h2⟩⟩,⟨hc.len,hc.of,hc.tr,hc.has,hc.work⟩,fun c=>by cases c⟩
  ·rename_i hne
   have ht':TrOk (fullV c { s with tries:=s.tries.dropLast }):=⟨ht.pw.sublist (List.dropLast_sublist _),fun x hx=>ht.le x (qBb _ hx),ht.nn⟩
   have hf':zA1 (fullV c { s with tries:=s.tries.dropLast })<=s.height-0:=by
    cases hq:s.tries.dropLast.getLast? with
    |none =>have:zA1 (fullV c { s with tries:=s.tries.dropLast })=0:=by unfold zA1;show (s.tries.dropLast.getLast?).getD 0=0;rw[hq];rfl
            have:=ht.nn;omega
    |some x=>rw[zEu (v:=fullV c { s with tries:=s.tries.dropLast }) (h:=x) hq];have:=(ht'.le x (qBc hq)).2;show x<=s.height-0;change x<=s.height at this;omega
   obtain⟨h1,h2,h3⟩:=zHL (holds:=true) (fl:=0) (takes:=0) (puts:=0) (tw:=[k+1]) hc (s:={ s with tries:=s.tries.dropLast }) (by intro t ht;simp at ht;omega) hs ht' (.inr hf') (qBO 0)
   refine⟨h1,h2,fun hb=>?_⟩
   obtain⟨_,_,h4⟩:=h3 hb
   have h5:=h4 (k+1) (by simp)
   have hl1:=zKD h2 h5
   rw[if_neg (by simp[hne];exact⟨by rw[hv.1];omega,by omega⟩)]
   refine⟨_,rfl,fun p hp=>?_⟩
   dsimp only at hp
   rw[if_neg (show ¬i.op=17 by omega),if_neg (show ¬i.op=18 by omega),if_pos (show true=true from rfl),if_neg (show ¬false=true by decide)]at hp
   simp only[qBj,qBC,qAM]at hp
   subst hp
   refine⟨by show (0:Int)<=(k.toNat:Int)+1;omega,_,by rw[show ((k.toNat:Int)+1).toNat=(k+1).toNat by omega];exact h5,?_⟩
   rw[zED h1 (s:=⟨s.of,s.height-0+0,s.tries.dropLast⟩) hs]
   rfl
 rw[if_neg c14]
 by_cases c17:i.op=17
 ·rw[if_pos c17]
  have e:eff con m i (fullV c s)=⟨0,0,true,true,false⟩:=by simp[eff,c17]
  rw[e]
  obtain⟨h1,h2,h3⟩:=zHL (holds:=true) (fl:=zA1 (fullV c s)) (takes:=0) (puts:=1) (tw:=[i.a]) hc (s:=s) (by intro t ht;simp at ht;omega) hs ht (.inl (qBO _)) (by decide)
  have hs':s.of = -1\/(0<=s.of/\0<getI (c.stepC s (zA1 (fullV c s)) 0 1 true [i.a]).has s.of):=hs.imp_right fun h=>⟨h.1,by rw[h1.has s.of (by omega)];exact h.2⟩
  have ht':TrOk (fullV (c.stepC s (zA1 (fullV c s)) 0 1 true [i.a]) ⟨s.of,s.height,s.tries++[s.height]⟩):=⟨by
    show (s.tries++[s.height]).Pairwise (·<=·)
    rw[List.pairwise_append]
    exact⟨ht.pw,by simp,fun a ha b hb=>by simp at hb;subst hb;exact(ht.le a ha).2⟩,fun x hx=>by
    rcases qAc.1 (show x∈s.tries++[s.height]from hx)with h|h
    ·exact ht.le x h
    ·simp at h;subst h;exact⟨ht.nn,qBO _⟩,ht.nn⟩
  obtain⟨g1,g2,g3⟩:=zJc h2 (k:=k+1) (s:=⟨s.of,s.height,s.tries++[s.height]⟩) (by omega) hs' ht'
  refine⟨h1.trans g1,g2,fun hb=>?_⟩
  obtain⟨_,_,h4⟩:=h3 (g1.bad hb)
  have h5:=g1.at_ _ _ (h4 i.a (by simp))
  have h6:=g3 hb
  have hl1:=zKD g2 h6
  rw[if_neg (by simp;exact⟨by rw[hv.1];omega,by omega⟩)]
  refine⟨_,rfl,fun p hp=>?_⟩
  dsimp only at hp
  rw[if_pos c17,if_neg (show ¬i.op=18 by omega),if_pos (show true=true from rfl),if_neg (show ¬false=true by decide),if_neg (show ¬i.op=14 by omega),if_pos c17]at hp
  simp only[qBC,qAc,qAM]at hp
  rcases hp with rfl|rfl
  ·refine⟨a0,_,h5,?_⟩
   rw[zED (h1.trans g1) (s:=⟨s.of,s.height-0+1,s.tries⟩) hs]
   show VS.mk _ _ _ _=VS.mk _ _ _ _
   congr 1;show s.height-0+1=s.height+1;omega
  ·refine⟨by show (0:Int)<=(k.toNat:Int)+1;omega,_,by rw[show ((k.toNat:Int)+1).toNat=(k+1).toNat by omega];exact h6,?_⟩
   rw[zED (h1.trans g1) (s:=⟨s.of,s.height,s.tries++[s.height]⟩) hs]
   show VS.mk _ _ _ _=VS.mk _ _ _ _
   congr 1;show s.height=s.height-0+0;omega
 rw[if_neg c17]
 by_cases c18:i.op=18
 ·rw[if_pos c18]
  have e:eff con m i (fullV c s)=⟨i.b,1,true,true,false⟩:=by simp[eff,c18]
  rw[e]
  obtain⟨h1,h2,h3⟩:=zHL (holds:=true) (fl:=zA1 (fullV c s)) (takes:=i.b) (puts:=1) (tw:=[k+1]) hc (s:=s) (by intro t ht;simp at ht;omega) hs ht (.inl (qBO _)) (by decide)
  obtain⟨g1,g2,g3⟩:=zVa h2 (k:=i.a) (n:=i.b) a0 b0
  refine⟨h1.trans g1,g2,fun hb=>?_⟩
  obtain⟨_,h7,h4⟩:=h3 (g1.bad hb)
  have h5:=g1.at_ _ _ (h4 (k+1) (by simp))
  obtain⟨h6,h8⟩:=g3 hb
  have hl1:=zKD g2 h5
  rw[if_neg (by simp;exact⟨by rw[hv.1];omega,by omega⟩)]
  refine⟨_,rfl,fun p hp=>?_⟩
  dsimp only at hp
  rw[if_neg (show ¬i.op=17 by omega),if_pos c18,if_pos (show true=true from rfl),if_neg (show ¬false=true by decide),if_neg (show ¬i.op=14 by omega),if_neg (show ¬i.op=17 by omega)]at hp
  simp only[qBj,qBC,qAc,qAM]at hp
  rcases hp with rfl|rfl
  ·refine⟨a0,_,h6,?_⟩
   show VS.mk i.a (if i.a = -1 then 0 else getI ((c.stepC s (zA1 (fullV c s)) i.b 1 true [k+1]).begin i.a i.b).has i.a-1) 1 []=VS.mk i.a i.b 1 []
   rw[if_neg (by omega),h8]
   show VS.mk _ _ _ _=VS.mk _ _ _ _
   congr 1;omega
  ·refine⟨by show (0:Int)<=(k.toNat:Int)+1;omega,_,by rw[show ((k.toNat:Int)+1).toNat=(k+1).toNat by omega];exact h5,?_⟩
   rw[zED (h1.trans g1) (s:=⟨s.of,s.height-i.b+1,s.tries⟩) hs]
   rfl
 rw[if_neg c18]
 have hpu:0<=(eff con m i (fullV c s)).puts:=by
  unfold eff;dsimp only
  repeat' (with_reducible refine zYy ?_ ?_)
  all_goals first|exact qBO 0|exact(show (0:Int)<=1 by decide)
 generalize eff con m i (fullV c s)=e at *
 have hto:∀t∈((if e.there then[i.a]else[])++(if e.behind then[k+1]else[]):List Int),0<=t:=fun t ht=>by
  rcases qAc.1 ht with h|h <;> split at h <;> simp at h <;> omega
 obtain⟨h1,h2,h3⟩:=zHL (holds:=e.holds) (fl:=zA1 (fullV c s)) (takes:=e.takes) (puts:=e.puts) hc (s:=s) hto hs ht (.inl (qBO _)) hpu
 refine⟨h1,h2,fun hb=>?_⟩
 obtain⟨h5,h6,h7⟩:=h3 hb
 have hbl:e.behind=true->k.toNat+1<m.code.length:=fun hbe=>by
  have:=zKD h2 (h7 (k+1) (by rw[hbe];simp));omega
 rw[if_neg (by
  simp only[h5,Bool.not_true,qBx,qBq,decide_eq_true_eq,qAV,not_or]
  exact⟨by rw[hv.1];omega,fun ⟨x,y⟩=>by have:=hbl x;omega⟩)]
 refine⟨_,rfl,fun p hp=>?_⟩
 rw[if_neg c17,if_neg c18,if_neg c14,if_neg c17]at hp
 simp only[qBj,qAc]at hp
 have hfin:∀t:Int,t∈((if e.there then[i.a]else[])++(if e.behind then[k+1]else[]):List Int)->∃x,(c.stepC s (zA1 (fullV c s)) e.takes e.puts e.holds ((if e.there then[i.a]else[])++(if e.behind then[k+1]else[]))).at_[t.toNat]?=some (some x)/\fullV (c.stepC s (zA1 (fullV c s)) e.takes e.puts e.holds ((if e.there then[i.a]else[])++(if e.behind then[k+1]else[]))) x = { fullV c s with height:=(fullV c s).height-e.takes+e.puts }:=fun t ht=>by
  refine⟨_,h7 t ht,?_⟩
  rw[zED h1 (s:=⟨s.of,s.height-e.takes+e.puts,s.tries⟩) hs]
  rfl
 rcases hp with hp|hp
 ·split at hp
  ·rename_i hbe
   rw[qAM]at hp;subst hp
   obtain⟨x,x1,x2⟩:=hfin (k+1) (by rw[hbe];simp)
   exact⟨by show (0:Int)<=(k.toNat:Int)+1;omega,x,by rw[show ((k.toNat:Int)+1).toNat=(k+1).toNat by omega];exact x1,x2⟩
  ·simp at hp
 ·split at hp
  ·rename_i hbe
   rw[qAM]at hp;subst hp
   obtain⟨x,x1,x2⟩:=hfin i.a (by rw[hbe];simp)
   exact⟨a0,x,x1,x2⟩
  ·simp at hp
end Go.Vm
namespace Go.Vm
variable {con:List UInt8->Bool}{m:Img}{A:Nat->Option VS}
structure Ag(A:Nat->Option VS)(c:CK): Prop where
 at_:∀(k:Nat) (s:CS),c.at_[k]?=some (some s)->A k=some (fullV c s)
 has:∀f,getI c.has f≠0->A f.toNat=some ⟨f,getI c.has f-1,1,[]⟩
 nb:c.bad=false
theorem zVD{c:CK}{x s:CS}(h:fullV c x=fullV c s): x=s:=by
 obtain⟨x1,x2,x3⟩:=x
 obtain⟨s1,s2,s3⟩:=s
 simp only[fullV,VS.mk.injEq]at h
 obtain⟨h1,_,h3,h4⟩:=h
 subst h1;subst h3;subst h4;rfl
theorem zNW(hg:Good con m A){c:CK}(hc:CInv m c)(ha:Ag A c){k:Int}{s:CS}(hA:A k.toNat=some (fullV c s)): Ag A (c.come k s):=by
 have hl:=(hg.some_ _ _ hA).1
 unfold CK.come
 cases h:c.at_[k.toNat]? with
 |none=>rw[qBP,hc.len]at h;omega
 |some o =>
  cases o with
  |none =>
   refine⟨fun q x hq=>?_,ha.has,ha.nb⟩
   change (c.at_.set k.toNat (some s))[q]?=some (some x)at hq
   rw[qAX]at hq
   split at hq
   ·rename_i e
    split at hq
    ·injection hq with hq;injection hq with hq;subst hq;rw[<-e];exact hA
    ·cases hq
   ·exact ha.at_ q x hq
  |some x =>
   dsimp only
   have h1:=ha.at_ _ _ h
   rw[hA]at h1
   injection h1 with h1
   rw[if_pos (zVD h1.symm)]
   exact ha
theorem zYJ(hg:Good con m A){c:CK}(hc:CInv m c)(ha:Ag A c){k n:Int}(hk:0<=k)(hn:0<=n)(hA:A k.toNat=some ⟨k,n,1,[]⟩): Ag A (c.begin k n):=by
 unfold CK.begin
 have hno:¬(getI c.has k>0/\getI c.has k≠n+1):=fun ⟨h1,h2⟩=>by
  have:=ha.has k (by omega)
  rw[hA]at this
  injection this with this
  simp only[VS.mk.injEq,true_and,and_true]at this
  omega
 rw[if_neg hno]
 have hgp:∀q,getI (putI c.has k (n+1)) q=if k=q then n+1 else getI c.has q:=zKa c.has k (n+1)
 have hsame:∀x:CS,(x.of = -1\/(0<=x.of/\0<getI c.has x.of))->fullV { c with has:=putI c.has k (n+1) } x=fullV c x:=fun x hx=>by
  unfold fullV
  by_cases h1:x.of = -1
  ·rw[if_pos h1,if_pos h1]
  ·rw[if_neg h1,if_neg h1]
   show VS.mk _ (getI (putI c.has k (n+1)) x.of-1) _ _=_
   rw[hgp]
   split
   ·rename_i e
    rcases hx with hx|hx
    ·exact absurd hx h1
    ·rw[<-e]at hx ⊢
     have:¬(getI c.has k>0/\getI c.has k≠n+1):=hno
     congr 1;omega
   ·rfl
 have c1:CInv m { c with has:=putI c.has k (n+1) }:=by
  refine⟨hc.len,fun q x hq=>?_,fun q x hq=>?_,fun f hf=>?_,hc.work⟩
  ·refine(hc.of q x hq).imp_right fun h=>⟨h.1,?_⟩
   show 0<getI (putI c.has k (n+1)) x.of
   rw[hgp];split
   ·omega
   ·exact h.2
  ·rw[hsame x (hc.of q x hq)];exact hc.tr q x hq
  ·change getI (putI c.has k (n+1)) f≠0 at hf
   show 0<=f/\0<getI (putI c.has k (n+1)) f
   rw[hgp]at hf ⊢
   split
   ·rename_i e;subst e;exact⟨hk,by omega⟩
   ·rename_i e;rw[if_neg e]at hf;exact hc.has f hf
 refine zNW hg c1 ⟨fun q x hq=>?_,fun f hf=>?_,ha.nb⟩ ?_
 ·rw[hsame x (hc.of q x hq)];exact ha.at_ q x hq
 ·change getI (putI c.has k (n+1)) f≠0 at hf
  show A f.toNat=some ⟨f,getI (putI c.has k (n+1)) f-1,1,[]⟩
  rw[hgp]at hf ⊢
  split
  ·rename_i e;subst e;rw[hA];congr 2;omega
  ·rename_i e;rw[if_neg e]at hf;exact ha.has f hf
 ·rw[hA]
  show some (VS.mk k n 1 [])=some (VS.mk k (if k = -1 then 0 else getI (putI c.has k (n+1)) k-1) 1 [])
  rw[if_neg (by omega),hgp,if_pos rfl]
  congr 2;omega
theorem zRT(hg:Good con m A){s:CS}: ∀(tw:List Int) {c:CK},CInv m c->Ag A c->(∀t∈tw,0<=t)->(s.of = -1\/(0<=s.of/\0<getI c.has s.of))->TrOk (fullV c s)->(∀t∈tw,A t.toNat=some (fullV c s))->Ag A (tw.foldl (fun c t=>c.come t s) c)
 |[],_,_,ha,_,_,_,_=>ha
 |t::r,c,hc,ha,h0,hs,ht,hA=>by
  obtain⟨h1,h2,h3⟩:=zJc hc (h0 t (by simp)) hs ht
  have hf:=zED h1 hs
  refine zRT hg r h2 (zNW hg hc ha (hA t (by simp))) (fun x hx=>h0 x (qAi _ hx)) (hs.imp_right fun h=>⟨h.1,by rw[h1.has s.of (by omega)];exact h.2⟩) (by rw[hf];exact ht) (fun x hx=>by rw[hf];exact hA x (qAi _ hx))
theorem zKR(hg:Good con m A){c:CK}(hc:CInv m c)(ha:Ag A c){s:CS}{fl takes puts:Int}{holds:Bool}{tw:List Int}(h0:∀t∈tw,0<=t)(hs:s.of = -1\/(0<=s.of/\0<getI c.has s.of))(ht:TrOk (fullV c s))(hf:zA1 (fullV c s)<=s.height-takes)(hp:0<=puts)(hh:holds=true)(hfl:fl<=s.height-takes)
  (hA:∀t∈tw,A t.toNat=some { fullV c s with height:=s.height-takes+puts }):Ag A (c.stepC s fl takes puts holds tw):=by
 unfold CK.stepC
 rw[if_neg (by rw[hh];simp;omega)]
 exact zRT (s:=⟨s.of,s.height-takes+puts,s.tries⟩) hg tw hc ha h0 hs (ht.tw (h:=s.height-takes+puts) (by omega)) (fun t ht=>by rw[hA t ht];rfl)
theorem zes(hg:Good con m A)(him:ImgOk m){c:CK}(hc:CInv m c)(ha:Ag A c){k:Int}{s:CS}(hk:0<=k)(hat:c.at_[k.toNat]?=some (some s)): Ag A (c.doC con m k s):=by
 have hs:=hc.of _ _ hat
 have ht:=hc.tr _ _ hat
 have hlt:=zKD hc hat
 obtain⟨i,hi⟩:∃i,m.code[k.toNat]?=some i:=⟨_,qAB hlt⟩
 have hgi:m.code.getD k.toNat default=i:=by rw[qAD,hi];rfl
 obtain⟨o0,o20,a0,a1,b0,b1,hgo⟩:=him.ins i (qAF hi)
 obtain⟨_,l,hl,hall⟩:=hg.some_ _ _ (ha.at_ _ _ hat)
 unfold zGs at hl
 dsimp only at hl
 rw[hgi]at hl
 split at hl
 ·cases hl
 rename_i hcnd
 injection hl with hl
 simp only[qBq,qBv,decide_eq_true_eq,qAV,not_or,Bool.not_eq_false]at hcnd
 obtain⟨⟨hhold,hfl⟩,hbh⟩:=hcnd
 change ¬s.height-(eff con m i (fullV c s)).takes<zA1 (fullV c s)at hfl
 have mB:(eff con m i (fullV c s)).behind=true->A (k+1).toNat=some { fullV c s with height:=s.height-(eff con m i (fullV c s)).takes+(eff con m i (fullV c s)).puts,tries:=if i.op=14 then s.tries.dropLast else if i.op=17 then s.tries++[s.height]else s.tries }:=fun hb=>by
  have:=(hall ((k.toNat:Int)+1,_) (by rw[<-hl,hb,if_pos rfl];exact qAm _ (qBe _ (qAM.2 rfl)))).2
  rw[show ((k.toNat:Int)+1).toNat=(k+1).toNat by omega]at this
  exact this
 have mT:(eff con m i (fullV c s)).there=true->A i.a.toNat=some { fullV c s with height:=s.height-(eff con m i (fullV c s)).takes+(eff con m i (fullV c s)).puts,tries:=if i.op=14 then s.tries.dropLast else if i.op=17 then s.tries++[s.height]else s.tries }:=fun hb =>
  (hall (i.a,_) (by rw[<-hl,hb,if_pos rfl];exact qBe _ (qAM.2 rfl))).2
 have m17:i.op=17->A i.a.toNat=some { fullV c s with height:=s.height+1 }:=fun hb =>
  (hall (i.a,_) (by rw[<-hl,if_pos hb];exact qAm _ (qAm _ (qAm _ (qAM.2 rfl))))).2
 have m18:i.op=18->A i.a.toNat=some ⟨i.a,i.b,1,[]⟩:=fun hb =>
  (hall (i.a,_) (by rw[<-hl,if_pos hb];exact qAm _ (qAm _ (qBe _ (qAM.2 rfl))))).2
 clear hall hl
 unfold CK.doC
 dsimp only
 rw[hgi]
 by_cases c14:i.op=14
 ·rw[if_pos c14]
  have e:eff con m i (fullV c s)=⟨0,0, !s.tries.isEmpty,true,false⟩:=by simp[eff,c14,fullV]
  rw[e]at hhold mB hfl
  have hB:=mB rfl
  rw[if_pos c14]at hB
  rw[if_neg (by simpa using hhold)]
  have ht':TrOk (fullV c { s with tries:=s.tries.dropLast }):=⟨ht.pw.sublist (List.dropLast_sublist _),fun x hx=>ht.le x (qBb _ hx),ht.nn⟩
  have hnn:0<=s.height:=ht.nn
  have hf':zA1 (fullV c { s with tries:=s.tries.dropLast })<=s.height-0:=by
   cases hq:s.tries.dropLast.getLast? with
   |none =>have:zA1 (fullV c { s with tries:=s.tries.dropLast })=0:=by unfold zA1;show (s.tries.dropLast.getLast?).getD 0=0;rw[hq];rfl
           omega
   |some x=>rw[zEu (v:=fullV c { s with tries:=s.tries.dropLast }) (h:=x) hq];have:=(ht'.le x (qBc hq)).2;show x<=s.height-0;change x<=s.height at this;omega
  exact zKR (s:={ s with tries:=s.tries.dropLast }) hg hc ha (by intro t ht;simp at ht;omega) hs ht' hf' (qBO 0) rfl (by show (0:Int)<=s.height-0;omega) (fun t ht=>by rw[qAM]at ht;subst ht;rw[hB];rfl)
 rw[if_neg c14]
 by_cases c17:i.op=17
 ·rw[if_pos c17]
  have e:eff con m i (fullV c s)=⟨0,0,true,true,false⟩:=by simp[eff,c17]
  rw[e]at mB hfl
  change ¬s.height-0<zA1 (fullV c s)at hfl
  have hB:=mB rfl
  rw[if_neg c14,if_pos c17]at hB
  have a1:=zKR (s:=s) (fl:=zA1 (fullV c s)) (takes:=0) (puts:=1) (holds:=true) (tw:=[i.a]) hg hc ha (by intro t ht;simp at ht;omega) hs ht (by omega) (by decide) rfl (by omega) (fun t ht=>by rw[qAM]at ht;subst ht;rw[m17 c17];simp)
  obtain⟨h1,h2,_⟩:=zHL (holds:=true) (fl:=zA1 (fullV c s)) (takes:=0) (puts:=1) (tw:=[i.a]) hc (s:=s) (by intro t ht;simp at ht;omega) hs ht (.inl (qBO _)) (by decide)
  refine zNW hg h2 a1 ?_
  rw[zED h1 (s:=⟨s.of,s.height,s.tries++[s.height]⟩) hs,hB]
  simp[fullV]
 rw[if_neg c17]
 by_cases c18:i.op=18
 ·rw[if_pos c18]
  have e:eff con m i (fullV c s)=⟨i.b,1,true,true,false⟩:=by simp[eff,c18]
  rw[e]at mB hfl
  change ¬s.height-i.b<zA1 (fullV c s)at hfl
  have hB:=mB rfl
  rw[if_neg c14,if_neg c17]at hB
  have a2:=zKR (s:=s) (fl:=zA1 (fullV c s)) (takes:=i.b) (puts:=1) (holds:=true) (tw:=[k+1]) hg hc ha (by intro t ht;simp at ht;omega) hs ht (by omega) (by decide) rfl (by omega) (fun t ht=>by rw[qAM]at ht;subst ht;rw[hB];rfl)
  obtain⟨h1,h2,_⟩:=zHL (holds:=true) (fl:=zA1 (fullV c s)) (takes:=i.b) (puts:=1) (tw:=[k+1]) hc (s:=s) (by intro t ht;simp at ht;omega) hs ht (.inl (qBO _)) (by decide)
  exact zYJ hg h2 a2 a0 b0 (m18 c18)
 rw[if_neg c18]
 have hpu:0<=(eff con m i (fullV c s)).puts:=by
  unfold eff;dsimp only
  repeat' (with_reducible refine zYy ?_ ?_)
  all_goals first|exact qBO 0|exact(show (0:Int)<=1 by decide)
 generalize eff con m i (fullV c s)=e at *
 rw[if_neg c14,if_neg c17]at mB mT
 refine zKR hg hc ha (fun t ht=>?_) hs ht (by omega) hpu (by simpa using hhold) (by omega) (fun t ht=>?_)
 ·rcases qAc.1 ht with h|h <;> split at h <;> simp at h <;> omega
 ·rcases qAc.1 ht with h|h
  ·split at h
   ·rename_i hb;rw[qAM]at h;subst h;exact mT hb
   ·simp at h
  ·split at h
   ·rename_i hb;rw[qAM]at h;subst h;exact mB hb
   ·simp at h
def Seen(con:List UInt8->Bool)(m:Img)(c:CK): Prop:=∀(k:Nat) (s:CS),c.at_[k]?=some (some s)->(k:Int)∉c.work->∃l,zGs con m k (fullV c s)=some l/\∀p∈l,0<=p.1/\∃x,c.at_[p.1.toNat]?=some (some x)/\fullV c x=p.2
theorem Seen.good{c:CK}(hc:CInv m c)(hs:Seen con m c)(hw:c.work=[])(h0:c.at_[0]?=some (some ⟨-1,0,[]⟩)): zR3 con m:=by
 refine⟨fun k=>(c.at_[k]?).bind fun o=>o.map (fullV c),?_,fun k v hv=>?_⟩
 ·show ((c.at_[0]?).bind fun o=>o.map (fullV c))=_
  rw[h0];rfl
 ·change ((c.at_[k]?).bind fun o=>o.map (fullV c))=some v at hv
  cases ho:c.at_[k]? with
  |none=>rw[ho]at hv;cases hv
  |some o =>
   cases o with
   |none=>rw[ho]at hv;cases hv
   |some s =>
    rw[ho]at hv
    injection hv with hv
    subst hv
    obtain⟨l,h1,h2⟩:=hs k s ho (by rw[hw];simp)
    refine⟨by have:=(qAA.1 ho).1;rw[<-hc.len];exact this,l,h1,fun p hp=>?_⟩
    obtain⟨q1,x,q2,q3⟩:=h2 p hp
    refine⟨q1,?_⟩
    show ((c.at_[p.1.toNat]?).bind fun o=>o.map (fullV c))=some p.2
    rw[q2,<-q3];rfl
theorem zSD(him:ImgOk m){c:CK}{k:Int}{w:List Int}(hc:CInv m c)(hs:Seen con m c)(hw:c.work=w++[k])(_hb:c.bad=false):
  ∃s,c.at_[k.toNat]?=some (some s)/\0<=k/\CInv m { c with work:=w }/\
   let d:=({ c with work:=w }:CK).doC con m k s
   CInv m d/\Ext { c with work:=w } d/\(d.bad=false->Seen con m d):=by
 obtain⟨hk,s,hat⟩:=hc.work k (by rw[hw];simp)
 have c1:CInv m { c with work:=w }:=⟨hc.len,hc.of,hc.tr,hc.has,fun q hq=>hc.work q (by rw[hw];exact qAm _ hq)⟩
 obtain⟨h1,h2,h3⟩:=zep (con:=con) him c1 hk hat
 refine⟨s,hat,hk,c1,h2,h1,fun hbad q x hq hqw=>?_⟩
 obtain⟨g1,g2⟩:=h1.work q x hq hqw
 have hfx:fullV (({ c with work:=w }:CK).doC con m k s) x=fullV c x:=zED (c:={ c with work:=w }) h1 (hc.of q x g1)
 by_cases hqk:(q:Int)=k
 ·have:q=k.toNat:=by omega
  subst this
  change c.at_[k.toNat]?=some (some x)at g1
  rw[hat]at g1;injection g1 with g1;injection g1 with g1;subst g1
  rw[hfx]
  exact h3 hbad
 ·rw[hfx]
  obtain⟨l,l1,l2⟩:=hs q x g1 (by
   rw[hw];intro hm
   rcases qAc.1 hm with h|h
   ·exact g2 h
   ·rw[qAM]at h;exact hqk h)
  refine⟨l,l1,fun p hp=>?_⟩
  obtain⟨p1,y,p2,p3⟩:=l2 p hp
  refine⟨p1,y,h1.at_ _ _ p2,?_⟩
  have:fullV (({ c with work:=w }:CK).doC con m k s) y=fullV c y:=zED (c:={ c with work:=w }) h1 (hc.of _ y p2)
  rw[this];exact p3
end Go.Vm
namespace Go.Proofs.YtcagoomibpcdlaaGreatDoor
open _root_.Go.Proofs.Tryz
open Go.Sx Go.Vm Go.RowKit
theorem zC8: zA3 prog 22=some 3:=by kernel_rfl
theorem zEy: (zBb prog 22).isSome=true:=by kernel_rfl
theorem zMs: zBb prog 22=some 43:=by kernel_rfl
theorem zZp: zCX prog 22=some 32:=by kernel_rfl
theorem zB5: zBD prog 22=some (false,1):=by kernel_rfl
theorem zFg: zA3 prog 23=some 3:=by kernel_rfl
theorem zEQ: (zBb prog 23).isSome=true:=by kernel_rfl
theorem zMr: zBb prog 23=some 46:=by kernel_rfl
theorem zZo: zCX prog 23=some 24:=by kernel_rfl
theorem zDz: zBD prog 23=some (false,1):=by kernel_rfl
theorem zBt: zAk prog 25 0=some 0:=by kernel_rfl
theorem zC4: zAk prog 25 1=some 1:=by kernel_rfl
theorem zC7: zBD prog 25=some (true,2):=by kernel_rfl
theorem zK2: zBq prog 25=some [.slice none 0 0,.slice none 0 0]:=by kernel_rfl
theorem zPY: zCj prog 25=some [(0,1),(1,1)]:=by kernel_rfl
theorem zDp: zAk prog 32 0=some 0:=by kernel_rfl
theorem zGG: zAk prog 32 1=some 1:=by kernel_rfl
theorem zNp: zAk prog 32 2=some 2:=by kernel_rfl
theorem zJD: zAk prog 32 3=some 3:=by kernel_rfl
theorem zGF: zAk prog 32 4=some 4:=by kernel_rfl
theorem zBy: zBD prog 32=some (true,5):=by kernel_rfl
theorem zDy: zBq prog 32=some [.int .i64 0,.slice none 0 0,.int .i64 0,.slice none 0 0,.int .i64 0]:=by kernel_rfl
theorem zIs: zCj prog 32=some [(0,1),(1,1),(2,1),(3,1),(4,1)]:=by kernel_rfl
theorem zCa: zAk prog 43 0=some 0:=by kernel_rfl
theorem zDY: zAk prog 43 1=some 1:=by kernel_rfl
theorem zDE: zAk prog 43 2=some 2:=by kernel_rfl
theorem zDm: zBD prog 43=some (true,3):=by kernel_rfl
theorem zZm: zC6 prog 43=some 3:=by kernel_rfl
theorem zIr: zBq prog 43=some [.bool false,.int .i64 0,.string ByteArray.empty]:=by kernel_rfl
theorem zZn: zCj prog 43=some [(0,1),(1,1),(2,1)]:=by kernel_rfl
theorem zAt: zAk prog 46 0=some 0:=by kernel_rfl
theorem zBK: zAk prog 46 1=some 1:=by kernel_rfl
theorem zCg: zAk prog 46 2=some 2:=by kernel_rfl
theorem zFf: zBD prog 46=some (true,3):=by kernel_rfl
theorem zZl: zC6 prog 46=some 3:=by kernel_rfl
theorem zJo: zBq prog 46=some [.int .i64 0,.int .i64 0,.int .i64 0]:=by kernel_rfl
theorem zTK: zCj prog 46=some [(0,1),(1,1),(2,1)]:=by kernel_rfl
theorem zCC: zBD prog 52=some (false,1):=by kernel_rfl
theorem zC2: zBD prog 55=some (false,1):=by kernel_rfl
theorem zBk: zA3 prog 56=some 1:=by kernel_rfl
theorem zDF: (zBb prog 56).isSome=true:=by kernel_rfl
theorem zCh: zBb prog 56=some 58:=by kernel_rfl
theorem zEm: zCX prog 56=some 8:=by kernel_rfl
theorem zBS: zBD prog 56=some (false,1):=by kernel_rfl
theorem zBj: zBD prog 58=some (false,1):=by kernel_rfl
theorem zGE: zC6 prog 58=some 1:=by kernel_rfl
theorem zHs: (zBq prog 58).isSome=true:=by kernel_rfl
theorem zFE: zAk prog 60 0=some 0:=by kernel_rfl
theorem zJp: zAk prog 60 1=some 1:=by kernel_rfl
theorem zDs: zAk prog 60 2=some 2:=by kernel_rfl
theorem zCc: zBD prog 60=some (true,3):=by kernel_rfl
theorem zWS: zC6 prog 60=some 3:=by kernel_rfl
theorem zWM: (zBq prog 60).isSome=true:=by kernel_rfl
theorem zWQ: zBq prog 60=some [.int .i64 0,.int .i64 0,.int .u64 0]:=by kernel_rfl
theorem zFP: zA3 prog 61=some 3:=by kernel_rfl
theorem zIH: (zBb prog 61).isSome=true:=by kernel_rfl
theorem zNs: zBb prog 61=some 60:=by kernel_rfl
theorem zWZ: zCX prog 61=some 24:=by kernel_rfl
theorem zCP: zBD prog 61=some (false,1):=by kernel_rfl
theorem zEz: zA3 prog 62=some 5:=by kernel_rfl
theorem zIG: (zBb prog 62).isSome=true:=by kernel_rfl
theorem zNr: zBb prog 62=some 114:=by kernel_rfl
theorem zWY: zCX prog 62=some 40:=by kernel_rfl
theorem zCN: zBD prog 62=some (false,1):=by kernel_rfl
theorem zF6: zAk prog 64 0=some 0:=by kernel_rfl
theorem zBl: zAk prog 64 1=some 2:=by kernel_rfl
theorem zDC: zAk prog 64 2=some 3:=by kernel_rfl
theorem zCx: zAk prog 64 3=some 4:=by kernel_rfl
theorem zEL: zAk prog 64 4=some 7:=by kernel_rfl
theorem zDb: zAk prog 64 5=some 8:=by kernel_rfl
theorem zCL: zAk prog 64 6=some 9:=by kernel_rfl
theorem zWP: zBq prog 64=some [.slice none 0 0,.slice none 0 0,.pointer none,.slice none 0 0,.int .i64 0,.int .i64 0,.int .u64 0,.slice none 0 0,.slice none 0 0,.int .i64 0,.slice none 0 0,.int .i64 0,.slice none 0 0,.int .i64 0]:=by kernel_rfl
theorem zWW: zCj prog 64=some [(0,2),(2,1),(3,1),(4,3),(7,1),(8,1),(9,5)]:=by kernel_rfl
theorem zKO: zA3 prog 93=some 4:=by kernel_rfl
theorem zTL: zBb prog 93=some 151:=by kernel_rfl
theorem zWX: zCX prog 93=some 48:=by kernel_rfl
theorem zFO: zBD prog 93=some (false,1):=by kernel_rfl
theorem zII: zA3 prog 96=some 1:=by kernel_rfl
theorem zNq: zBb prog 96=some 4:=by kernel_rfl
theorem zQV: zCX prog 96=some 1:=by kernel_rfl
theorem zKN: zBD prog 96=some (false,1):=by kernel_rfl
theorem zDO: zAk prog 98 0=some 0:=by kernel_rfl
theorem zEq: zAk prog 98 1=some 1:=by kernel_rfl
theorem zMH: zAk prog 98 2=some 2:=by kernel_rfl
theorem zIF: zAk prog 98 3=some 3:=by kernel_rfl
theorem zWO: zBq prog 98=some [.slice none 0 0,.slice none 0 0,.int .i64 0,.slice none 0 0]:=by kernel_rfl
theorem zWV: zCj prog 98=some [(0,1),(1,1),(2,1),(3,1)]:=by kernel_rfl
theorem zG6: zAk prog 114 0=some 0:=by kernel_rfl
theorem zR2: zAk prog 114 1=some 3:=by kernel_rfl
theorem zR1: zAk prog 114 2=some 4:=by kernel_rfl
theorem zCf: zBD prog 114=some (true,5):=by kernel_rfl
theorem zWR: zC6 prog 114=some 5:=by kernel_rfl
theorem zWL: (zBq prog 114).isSome=true:=by kernel_rfl
theorem zKM: zBq prog 114=some [.int .i64 0,.int .i64 0,.int .u64 0,.int .i64 0,.int .i64 0]:=by kernel_rfl
theorem zWU: zCj prog 114=some [(0,3),(3,1),(4,1)]:=by kernel_rfl
theorem zEp: zAk prog 151 0=some 0:=by kernel_rfl
theorem zDN: zAk prog 151 1=some 1:=by kernel_rfl
theorem zDa: zAk prog 151 2=some 2:=by kernel_rfl
theorem zG5: zAk prog 151 3=some 3:=by kernel_rfl
theorem zFu: zBD prog 151=some (true,4):=by kernel_rfl
theorem zFt: zBq prog 151=some [.int .i64 0,.int .i64 0,.slice none 0 0,.bool false]:=by kernel_rfl
theorem zID: zCj prog 151=some [(0,1),(1,1),(2,1),(3,1)]:=by kernel_rfl
theorem zDJ: zBD prog 145=some (false,1):=by kernel_rfl
theorem zEK: zAk prog 148 0=some 0:=by kernel_rfl
theorem zF5: zAk prog 148 1=some 2:=by kernel_rfl
theorem zIE: zAk prog 148 2=some 3:=by kernel_rfl
theorem zG4: zAk prog 148 3=some 4:=by kernel_rfl
theorem zDZ: zAk prog 148 4=some 5:=by kernel_rfl
theorem zWN: zBq prog 148=some [.slice none 0 0,.slice none 0 0,.slice none 0 0,.map none,.slice none 0 0,.bool false]:=by kernel_rfl
theorem zWT: zCj prog 148=some [(0,2),(2,1),(3,1),(4,1),(5,1)]:=by kernel_rfl
theorem zAw: zBD prog 44=some (false,1):=by kernel_rfl
theorem zJC: zBD prog 109=some (false,1):=by kernel_rfl
theorem zDI: zBD prog 28=some (false,1):=by kernel_rfl
theorem zEJ: zBD prog 146=some (false,1):=by kernel_rfl
theorem zEa: zAL prog 8=true:=by kernel_rfl
theorem zFa: zAL prog 9=true:=by kernel_rfl
theorem zGN: zAL prog 10=true:=by kernel_rfl
theorem zE9: zAL prog 11=true:=by kernel_rfl
theorem zE7: zAL prog 12=true:=by kernel_rfl
theorem zFz: zAL prog 13=true:=by kernel_rfl
theorem zOj: zAL prog 14=true:=by kernel_rfl
theorem zIk: zAL prog 16=true:=by kernel_rfl
theorem zOl: zAL prog 17=true:=by kernel_rfl
theorem zEi: zAL prog 18=true:=by kernel_rfl
theorem zI3: zAL prog 19=true:=by kernel_rfl
theorem zHY: zAL prog 20=true:=by kernel_rfl
theorem zDt: zAL prog 21=true:=by kernel_rfl
theorem zSf: zAL prog 22=true:=by kernel_rfl
theorem zHA: zAL prog 23=true:=by kernel_rfl
theorem zBJ: zAL prog 24=true:=by kernel_rfl
theorem zLb: zAL prog 25=true:=by kernel_rfl
theorem zFZ: zAL prog 27=true:=by kernel_rfl
theorem zB3: zAL prog 28=true:=by kernel_rfl
theorem zNK: zAL prog 29=true:=by kernel_rfl
theorem zIi: zAL prog 30=true:=by kernel_rfl
theorem zBw: zAL prog 31=true:=by kernel_rfl
theorem zGw: zAL prog 32=true:=by kernel_rfl
theorem zNL: zAL prog 33=true:=by kernel_rfl
theorem zL9: zAL prog 34=true:=by kernel_rfl
theorem zIl: zAL prog 35=true:=by kernel_rfl
theorem zLX: zAL prog 36=true:=by kernel_rfl
theorem zSh: zAL prog 38=true:=by kernel_rfl
theorem zDu: zAL prog 39=true:=by kernel_rfl
theorem zGO: zAL prog 40=true:=by kernel_rfl
theorem zF8: zAL prog 41=true:=by kernel_rfl
theorem zIT: zAL prog 42=true:=by kernel_rfl
theorem zEt: zAL prog 43=true:=by kernel_rfl
theorem zP1: zAL prog 44=true:=by kernel_rfl
theorem zSi: zAL prog 45=true:=by kernel_rfl
theorem zLZ: zAL prog 46=true:=by kernel_rfl
theorem zP0: zAL prog 47=true:=by kernel_rfl
theorem zSg: zAL prog 48=true:=by kernel_rfl
theorem zDB: zAL prog 49=true:=by kernel_rfl
theorem zI2: zAL prog 50=true:=by kernel_rfl
theorem zJ1: zAL prog 51=true:=by kernel_rfl
theorem zCd: zAL prog 52=true:=by kernel_rfl
theorem zC3: zAL prog 53=true:=by kernel_rfl
theorem zEM: zAL prog 54=true:=by kernel_rfl
theorem zFM: zAL prog 55=true:=by kernel_rfl
theorem zJa: zAL prog 56=true:=by kernel_rfl
theorem zJZ: zAL prog 57=true:=by kernel_rfl
theorem zFR: zAL prog 59=true:=by kernel_rfl
theorem zJX: zAL prog 60=true:=by kernel_rfl
theorem zFx: zAL prog 61=true:=by kernel_rfl
theorem zCY: zAL prog 62=true:=by kernel_rfl
theorem zOi: zAL prog 63=true:=by kernel_rfl
theorem zIh: zAL prog 64=true:=by kernel_rfl
theorem zNI: zAL prog 65=true:=by kernel_rfl
theorem zCD: zAL prog 66=true:=by kernel_rfl
theorem zGv: zAL prog 67=true:=by kernel_rfl
theorem zMA: zAL prog 68=true:=by kernel_rfl
theorem zHX: zAL prog 69=true:=by kernel_rfl
theorem zGx: zAL prog 70=true:=by kernel_rfl
theorem zNM: zAL prog 71=true:=by kernel_rfl
theorem zOo: zAL prog 72=true:=by kernel_rfl
theorem zHB: zAL prog 73=true:=by kernel_rfl
theorem zXu: zAL prog 74=true:=by kernel_rfl
theorem zMU: zAL prog 75=true:=by kernel_rfl
theorem zIU: zAL prog 76=true:=by kernel_rfl
theorem zFc: zAL prog 77=true:=by kernel_rfl
theorem zP5: zAL prog 78=true:=by kernel_rfl
theorem zFJ: zAL prog 79=true:=by kernel_rfl
theorem zOf: zAL prog 80=true:=by kernel_rfl
theorem zFX: zAL prog 81=true:=by kernel_rfl
theorem zOe: zAL prog 83=true:=by kernel_rfl
theorem zOd: zAL prog 85=true:=by kernel_rfl
theorem zOc: zAL prog 87=true:=by kernel_rfl
theorem zLY: zAL prog 88=true:=by kernel_rfl
theorem zOb: zAL prog 90=true:=by kernel_rfl
theorem zOa: zAL prog 92=true:=by kernel_rfl
theorem zOg: zAL prog 93=true:=by kernel_rfl
theorem zOZ: zAL prog 94=true:=by kernel_rfl
theorem zPz: zAL prog 95=true:=by kernel_rfl
theorem zHU: zAL prog 97=true:=by kernel_rfl
theorem zHZ: zAL prog 98=true:=by kernel_rfl
theorem zFb: zAL prog 99=true:=by kernel_rfl
theorem zKA: zAL prog 100=true:=by kernel_rfl
theorem zIj: zAL prog 101=true:=by kernel_rfl
theorem zE6: zAL prog 104=true:=by kernel_rfl
theorem zFY: zAL prog 105=true:=by kernel_rfl
theorem zJY: zAL prog 106=true:=by kernel_rfl
theorem zIg: zAL prog 107=true:=by kernel_rfl
theorem zNJ: zAL prog 108=true:=by kernel_rfl
theorem zGh: zAL prog 109=true:=by kernel_rfl
theorem zJ9: zAL prog 110=true:=by kernel_rfl
theorem zOk: zAL prog 111=true:=by kernel_rfl
theorem zHh: zAL prog 113=true:=by kernel_rfl
theorem zDg: zAL prog 114=true:=by kernel_rfl
theorem zMC: zAL prog 115=true:=by kernel_rfl
theorem zP4: zAL prog 116=true:=by kernel_rfl
theorem zMB: zAL prog 117=true:=by kernel_rfl
theorem zF7: zAL prog 118=true:=by kernel_rfl
theorem zL8: zAL prog 119=true:=by kernel_rfl
theorem zFK: zAL prog 120=true:=by kernel_rfl
theorem zU1: zAL prog 121=true:=by kernel_rfl
theorem zCk: zAL prog 122=true:=by kernel_rfl
theorem zFL: zAL prog 123=true:=by kernel_rfl
theorem zP2: zAL prog 124=true:=by kernel_rfl
theorem zOh: zAL prog 125=true:=by kernel_rfl
theorem zFj: zAL prog 126=true:=by kernel_rfl
theorem zLd: zAL prog 127=true:=by kernel_rfl
theorem zF9: zAL prog 128=true:=by kernel_rfl
theorem zHV: zAL prog 129=true:=by kernel_rfl
theorem zNO: zAL prog 130=true:=by kernel_rfl
theorem zLc: zAL prog 131=true:=by kernel_rfl
theorem zOn: zAL prog 132=true:=by kernel_rfl
theorem zKB: zAL prog 133=true:=by kernel_rfl
theorem zNN: zAL prog 137=true:=by kernel_rfl
theorem zFy: zAL prog 139=true:=by kernel_rfl
theorem zLa: zAL prog 140=true:=by kernel_rfl
theorem zEA: zAL prog 147=true:=by kernel_rfl
theorem zE8: zAL prog 148=true:=by kernel_rfl
theorem zEC: zAL prog 149=true:=by kernel_rfl
theorem zEB: zAL prog 150=true:=by kernel_rfl
theorem zJ2: zAL prog 151=true:=by kernel_rfl
theorem zMV: zAL prog 153=true:=by kernel_rfl
theorem zHW: zAL prog 162=true:=by kernel_rfl
theorem zKI: prog.underlying 58=some (.int .u64):=by kernel_rfl
theorem zJq: (prog.underlying 58).isSome=true:=by kernel_rfl
theorem ubk: prog.underlying 109=some (.int .i64):=by kernel_rfl
theorem sbk: (prog.underlying 109).isSome=true:=by kernel_rfl
theorem sint: (prog.underlying 3).isSome=true:=by kernel_rfl
end Go.Proofs.YtcagoomibpcdlaaGreatDoor
namespace Go.Vm
theorem zRc{all:List Thing}{ord:List Nat}{size i:Nat}(h:sumN all ord+(zAc all i).need<=size): (begL all ord size).set (sumN all ord) true=begL all (ord++[i]) size:=by
 have hF:∀l:List Nat,(l.flatMap fun i=>true::List.replicate (zAc all i).size false).length=sumN all l:=fun l=>by
  induction l with
  |nil=>rfl
  |cons i r ih=>rw[qAf,qAE,ih,zDq,qAN,qAp,zD7]
 have hp:=zD7 (zAc all i)
 unfold begL
 rw[qBX _ _ (by rw[hF];omega),hF,qBM,List.flatMap_append,qAg,zHt,zMx]
 congr 1
 obtain⟨n,hn⟩:∃n,size-sumN all ord=n+1:=⟨size-sumN all ord-1,by omega⟩
 rw[hn,List.replicate_succ,qBo]
 simp only[qAf,List.flatMap_nil,qBC,qBk]
 rw[List.replicate_append_replicate]
 congr 2
 omega
theorem zYF{all:List Thing}{f:Nat->List Nat}(hf:∀i,(f i).length=(zAc all i).need){ly:List Nat}{i:Nat}(h:i∈ly): ((ly.flatMap f).drop (offL all ly i)).take (zAc all i).need=f i:=by
 apply qBm
 intro j
 rw[qAS,qAl]
 by_cases hj:j<(zAc all i).need
 ·rw[if_pos hj,zPB hf h hj]
 ·rw[if_neg hj,qAv (by rw[hf];omega)]
theorem zbT{all:List Thing}{ly ord:List Nat}{i:Nat}(h:i∈ord): (fwdN all ly ord i)[0]?=some (8*offL all ord i):=by
 unfold fwdN;rw[if_pos h,Nat.mul_comm];rfl
theorem zVC{all:List Thing}{ly ord:List Nat}{i:Nat}(h:i∉ord): fwdN all ly ord i=zDU all ly i:=by
 unfold fwdN zDU;rw[if_neg h]
def newB(all:List Thing)(ly ord:List Nat): Rf->List Nat
 | .n _=>[]
 | .b i=>if i∈ord then[]else zDU all ly i
def othP(all:List Thing)(ly ord:List Nat)(k j:Nat): List Nat :=
 (ord.take k).flatMap (zDU all ord)++((zDM (zAc all (ord.getD k 0))::(((zAc all (ord.getD k 0)).parts.take j).map (wdN all ord)++((zAc all (ord.getD k 0)).parts.drop j).map (wdN all ly)))++(ord.drop (k+1)).flatMap (zDU all ly))
theorem zLi{l:List Nat}{k i:Nat}(h:l[k]?=some i): l.drop k=i::l.drop (k+1):=by
 obtain⟨hl,e⟩:=qAA.1 h
 rw[qA9 hl,e]
theorem zI4{l:List Nat}{k i:Nat}(h:l[k]?=some i): l.getD k 0=i:=by rw[qAD,h];rfl
theorem zMw{l:List Nat}{k i:Nat}(h:l[k]?=some i): l.take (k+1)=l.take k++[i]:=by rw[qA7,h];rfl
theorem zYu{all:List Thing}{ly ord:List Nat}{k i:Nat}(h:ord[k]?=some i)(h4:(zAc all i).kind≠4): othM all ly ord k=othP all ly ord k 0:=by
 unfold othM othP
 rw[zLi h,zI4 h,qAf]
 congr 2
 unfold zDU zGU
 rw[if_neg h4]
 simp
theorem zXU{all:List Thing}{ly ord:List Nat}{k i:Nat}(h:ord[k]?=some i)(h4:(zAc all i).kind≠4): othP all ly ord k (zAc all i).parts.length=othM all ly ord (k+1):=by
 unfold othM othP
 rw[zI4 h,zMw h,List.flatMap_append,qAg]
 congr 2
 unfold zDU zGU
 simp[h4]
theorem zOQ{all:List Thing}{ly ord:List Nat}{k i:Nat}(h:ord[k]?=some i)(h4:(zAc all i).kind=4): othM all ly ord k=othM all ly ord (k+1):=by
 unfold othM
 rw[zLi h,zMw h,List.flatMap_append,qAg,qAf]
 congr 2
 unfold zDU zGU
 simp[h4]
theorem zKV(ord:List Nat)(r:Rf): ord <+: addN ord [r]:=zF2 [r] ord
theorem zXT{all:List Thing}{ly ord:List Nat}{k j i:Nat}(h:ord[k]?=some i)(hc:∀x∈ord.take k,∀r∈(zAc all x).parts,In ord r)(hp:∀r∈(zAc all i).parts.take j,In ord r)(r:Rf):
  othP all ly ord k j++newB all ly ord r=othP all ly (addN ord [r]) k j:=by
 obtain⟨hl,_⟩:=qAA.1 h
 rw[zKh]
 cases r with
 |n v=>simp[newB]
 |b x =>
  by_cases hx:x∈ord
  ·simp[newB,hx]
  ·have e1:(ord++[x])[k]?=some i:=by rw[qAI hl];exact h
   simp only[newB,if_neg hx]
   unfold othP
   rw[zI4 h,zI4 e1,qBJ (by omega),List.drop_append_of_le_length (by omega),List.flatMap_append,qAg,qAg]
   congr 1
   ·refine zJ3 fun j hj=>?_
    exact(zO5 (List.prefix_append _ _) fun _=>hc j hj).symm
   ·rw[zNE (List.prefix_append ord [x]) hp]
    simp
theorem zQy{all:List Thing}{ly ord:List Nat}{k j i:Nat}(h:ord[k]?=some i)(h4:(zAc all i).kind≠4): (othP all ly ord k j).length=sumN all ord:=by
 have e:=zNA all ly ord k
 unfold othM at e
 unfold othP
 rw[zLi h,qAf,qAE,qAE,zDf]at e
 rw[zI4 h,qAE,qAE,qAN,qAE,qAC,qAC,<-qAE,qBV]
 have:(zAc all i).need=1+(zAc all i).parts.length:=by unfold Thing.need;rw[if_neg h4]
 omega
def posN(all:List Thing)(ord:List Nat)(k:Nat): Nat:=sumN all (ord.take k)
theorem zUK{all:List Thing}{ord:List Nat}{k i:Nat}(h:ord[k]?=some i): posN all ord (k+1)=posN all ord k+(zAc all i).need:=by
 unfold posN;rw[zMw h,zHt,zMx]
theorem zM5{all:List Thing}{l l':List Nat}(hp:l <+: l'){k:Nat}(hk:k<=l.length): posN all l' k=posN all l k:=by
 obtain⟨m,rfl⟩:=hp
 unfold posN;rw[qBJ hk]
theorem zPn{all:List Thing}{ord:List Nat}{k:Nat}: posN all ord k<sumN all ord↔k<ord.length:=by
 have e:sumN all ord=posN all ord k+sumN all (ord.drop k):=by
  unfold posN;rw[<-zHt,qBV]
 constructor
 ·intro h
  rcases qAR k ord.length with h1|h1
  ·exact h1
  ·rw[List.drop_eq_nil_of_le h1]at e
   have:sumN all []=0:=rfl
   omega
 ·intro h
  have e2:ord[k]?=some ord[k]:=qAB h
  rw[zLi e2,zDq]at e
  have:=zHP (zAc all ord[k])
  omega
theorem zUa{all:List Thing}{ly ord:List Nat}{k i:Nat}(h:ord[k]?=some i): (othM all ly ord k)[posN all ord k]?=some (zDM (zAc all i)):=by
 unfold othM posN
 rw[zLi h,qAf,qAJ (by rw[zF0 (zDf all ord)];exact qAP _),zF0 (zDf all ord),qBM]
 rfl
theorem zam{all:List Thing}{ly ord:List Nat}{k j i:Nat}(h:ord[k]?=some i){r:Rf}(hr:(zAc all i).parts[j]?=some r): (othP all ly ord k j)[posN all ord k+1+j]?=some (wdN all ly r):=by
 obtain⟨hl,e⟩:=qAA.1 hr
 unfold othP posN
 rw[zI4 h,qAJ (by rw[zF0 (zDf all ord)];omega),zF0 (zDf all ord),qAI (by simp;omega),
  show sumN all (ord.take k)+1+j-sumN all (ord.take k)=j+1 by omega,List.getElem?_cons_succ,qAJ (by simp;omega)]
 simp[List.length_take,Nat.min_eq_left (Nat.le_of_lt hl),List.getElem?_drop,hr]
theorem zXS{all:List Thing}{ly ord:List Nat}{k j i:Nat}(h:ord[k]?=some i){r:Rf}(hr:(zAc all i).parts[j]?=some r): (othP all ly ord k j).set (posN all ord k+1+j) (wdN all ord r)=othP all ly ord k (j+1):=by
 obtain⟨hl,e⟩:=qAA.1 hr
 unfold othP posN
 rw[zI4 h,qBX _ _ (by rw[zF0 (zDf all ord)];omega),zF0 (zDf all ord),List.set_append_left _ _ (by simp;omega),
  show sumN all (ord.take k)+1+j-sumN all (ord.take k)=j+1 by omega,List.set_cons_succ,qBX _ _ (by simp;omega)]
 congr 3
 rw[qAC,qAG,qBw (Nat.le_of_lt hl),qBM,qA9 hl,e,qAr,qBo,qA7,hr,qAU]
 simp
theorem zUZ{all:List Thing}{ly ord:List Nat}{k:Nat}(hk:k<=ord.length)(hc:∀j∈ord.take k,∀r∈(zAc all j).parts,In ord r)(r:Rf): othM all ly ord k++newB all ly ord r=othM all ly (addN ord [r]) k:=by
 rw[zKh]
 cases r with
 |n v=>simp[newB]
 |b i =>
  by_cases h:i∈ord
  ·simp[newB,h]
  ·simp only[newB,if_neg h];exact zXV hk hc
theorem zTs(all:List Thing)(ord:List Nat): ∀f,zHM all f ord ord.length=ord
 |0=>rfl
 |f+1=>by unfold zHM;simp
theorem zSC{all:List Thing}{ord:List Nat}{k i f:Nat}(h:ord[k]?=some i): zHM all (f+1) ord k=zHM all f (addN ord (zAc all i).parts) (k+1):=by
 rw[zHM,h];rfl
structure Mv(all:List Thing)(ly:List Nat)(roots:List Rf)(k:Nat)(ord:List Nat): Prop where
 nodup:ord.Nodup
 sub:∀j∈ord,j∈ly
 le:k<=ord.length
 closed:∀j∈ord.take k,∀r∈(zAc all j).parts,In ord r
 rt:∀r∈roots,In ord r
 scan:∃f,zHM all f ord k=zDd all roots/\all.length+1<=f+k
theorem zKg{ly ord:List Nat}{rs:List Rf}(h:∀j∈ord,j∈ly)(hr:∀r∈rs,In ly r): ∀j∈addN ord rs,j∈ly:=fun j hj=>by
 rcases(zF3 j rs ord).1 hj with h1|h1
 ·exact h j h1
 ·exact hr _ h1 j rfl
theorem Mv.start{all:List Thing}{ly:List Nat}{roots:List Rf}(hr:∀r∈roots,In ly r): Mv all ly roots 0 (addN [] roots) where
 nodup:=zEO roots [] (by simp)
 sub:=zKg (by simp) hr
 le:=qAQ _
 closed:=by simp
 rt:=fun r h=>zNj [] roots h
 scan:=⟨all.length+1,rfl,by omega⟩
theorem Mv.next{all:List Thing}{ly:List Nat}{roots:List Rf}{k i:Nat}{ord:List Nat}(h:Mv all ly roots k ord)(hlt:∀i∈ly,i<all.length)(hcl:Closed all ly)(hi:ord[k]?=some i): Mv all ly roots (k+1) (addN ord (zAc all i).parts):=by
 have hp:ord <+: addN ord (zAc all i).parts:=zF2 _ _
 have hil:i∈ord:=qAF hi
 have hkl:=(qAA.1 hi).1
 have hsub:∀r∈(zAc all i).parts,In ly r:=fun r hr j e=>hcl i (h.sub i hil) j (by rw[<-e];exact hr)
 refine⟨zEO _ _ h.nodup,zKg h.sub hsub,qAu hkl hp.length_le,fun j hj r hr=>?_,fun r hr=>(h.rt r hr).pre hp,?_⟩
 ·obtain⟨m,e⟩:=hp
  rw[<-e,qBJ (by omega),zMw hi]at hj
  rcases qAc.1 hj with h1|h1
  ·exact(h.closed j h1 r hr).pre (zF2 _ _)
  ·rw[qAM]at h1;subst h1;exact zNj ord _ hr
 ·obtain⟨f,h1,h2⟩:=h.scan
  have hol:ord.length<=all.length:=nodup_len h.nodup fun j hj=>hlt j (h.sub j hj)
  obtain⟨f',rfl⟩:∃f',f=f'+1:=⟨f-1,by omega⟩
  rw[zSC hi]at h1
  exact⟨f',h1,by omega⟩
theorem Mv.fin{all:List Thing}{ly:List Nat}{roots:List Rf}{ord:List Nat}{k:Nat}(h:Mv all ly roots k ord)(hk:ord.length<=k): zDd all roots=ord/\k=ord.length:=by
 have e:k=ord.length:=Nat.le_antisymm h.le hk
 subst e
 obtain⟨f,h1,_⟩:=h.scan
 rw[zTs]at h1
 exact⟨h1.symm,rfl⟩
def zJK(all:List Thing)(ly ord:List Nat)(rs:List Rf)(i:Nat): List Nat:=(rs.take i).map (wdN all ord)++(rs.drop i).map (wdN all ly)
theorem zaM(all:List Thing)(ly ord:List Nat)(rs:List Rf): zJK all ly ord rs 0=rs.map (wdN all ly):=by simp[zJK]
theorem zT0(all:List Thing)(ly ord:List Nat)(rs:List Rf): zJK all ly ord rs rs.length=rs.map (wdN all ord):=by simp[zJK]
theorem zTz(all:List Thing)(ly ord:List Nat)(rs:List Rf)(i:Nat): (zJK all ly ord rs i).length=rs.length:=by
 unfold zJK;rw[qAE,qAC,qAC,<-qAE,qBV]
theorem zW7{all:List Thing}{ly ord:List Nat}{rs:List Rf}{i:Nat}{r:Rf}(h:rs[i]?=some r): (zJK all ly ord rs i)[i]?=some (wdN all ly r):=by
 obtain⟨hl,e⟩:=qAA.1 h
 unfold zJK
 rw[qAJ (by simp;omega)]
 simp[List.length_take,Nat.min_eq_left (Nat.le_of_lt hl),List.getElem?_drop,h]
theorem zSE{all:List Thing}{ly ord:List Nat}{rs:List Rf}{i:Nat}{r:Rf}(h:rs[i]?=some r)(hi:∀x∈rs.take i,In ord x): (zJK all ly ord rs i).set i (wdN all (addN ord [r]) r)=zJK all ly (addN ord [r]) rs (i+1):=by
 obtain⟨hl,e⟩:=qAA.1 h
 unfold zJK
 rw[qBX _ _ (by simp;omega),qAC,qAG,qBw (Nat.le_of_lt hl),qBM,qA9 hl,e,qAr,qBo,qA7,h,qAU,zNE (zKV ord r) hi]
 simp
theorem zKW: ∀l:List UInt8,zFh l<256 ^ l.length
 |[]=>by simp[zFh]
 |b::r=>by
  have:=zKW r
  have hb:b.toNat<256:=b.toNat_lt
  rw[zFh,qAN,Nat.pow_succ];omega
theorem zOP: ∀(l:List UInt8) (b:UInt8),zFh (l++[b])=zFh l+b.toNat*256 ^ l.length
 |[],b=>by simp[zFh]
 |a::r,b=>by
  rw[qBk,zFh,zFh,zOP r b,qAN,Nat.pow_succ,Nat.mul_add,<-Nat.mul_assoc,Nat.mul_comm 256 b.toNat,Nat.mul_assoc b.toNat,Nat.mul_comm 256 (256 ^ r.length),Nat.add_assoc]
theorem zQx: ∀(l:List UInt8) (i:Nat) (b:UInt8),l[i]?=some b->zFh l / 256 ^ i%256=b.toNat
 |[],i,b,h=>by simp at h
 |a::r,0,b,h=>by
  simp only[List.getElem?_cons_zero,qBu]at h
  subst h
  have hb:a.toNat<256:=a.toNat_lt
  rw[zFh,Nat.pow_zero,Nat.div_one];omega
 |a::r,i+1,b,h=>by
  rw[List.getElem?_cons_succ]at h
  have hb:a.toNat<256:=a.toNat_lt
  rw[zFh,Nat.pow_succ,Nat.mul_comm (256 ^ i) 256,<-Nat.div_div_eq_div_mul,show (a.toNat+256*zFh r) / 256=zFh r by omega]
  exact zQx r i b h
theorem zFV: ∀(k:Nat) (l:List UInt8) (q:Nat),q<k->(zGr k l)[q]?=some (zFh ((l.drop (8*q)).take 8))
 |0,_,_,h=>by omega
 |k+1,l,0,_=>by rw[zGr];rfl
 |k+1,l,q+1,h=>by
  rw[zGr,List.getElem?_cons_succ,zFV k (l.drop 8) q (by omega),List.drop_drop]
  rw[show 8*(q+1)=8+8*q by omega]
theorem zXQ(k:Nat)(l:List UInt8): ∀x∈zGr k l,x<18446744073709551616:=by
 intro x hx
 obtain⟨q,hq⟩:=List.getElem?_of_mem hx
 have hl:q<k:=by have:=(qAA.1 hq).1;rwa [zEY]at this
 rw[zFV k l q hl]at hq
 injection hq with hq
 rw[<-hq]
 have h1:=zKW ((l.drop (8*q)).take 8)
 have h2:((l.drop (8*q)).take 8).length<=8:=by rw[qAG];omega
 have h3:256 ^ ((l.drop (8*q)).take 8).length<=256 ^ 8:=Nat.pow_le_pow_right (by decide) h2
 have h4:(256:Nat) ^ 8=18446744073709551616:=by decide
 omega
theorem zUT: ∀k:Nat,zGr k []=List.replicate k 0
 |0=>rfl
 |k+1=>by
  show zFh (List.take 8 [])::zGr k (List.drop 8 [])=_
  rw[List.take_nil,List.drop_nil,zUT k,List.replicate_succ];rfl
theorem zSR{k:Nat}{s:List UInt8}{i:Nat}{b:UInt8}(h:s[i]?=some b)(hk:i / 8<k):
  (zGr k (s.take i)).set (i / 8) (zFh (((s.take i).drop (8*(i / 8))).take 8)+b.toNat*256 ^ (i%8))=zGr k (s.take (i+1)):=by
 obtain⟨hl,e⟩:=qAA.1 h
 have ht:s.take (i+1)=s.take i++[b]:=by rw[qA7,h];rfl
 apply qBm
 intro q
 rw[qAX,zEY]
 by_cases hq:i / 8=q
 ·subst hq
  rw[if_pos rfl,if_pos hk,zFV _ _ _ hk,ht,List.drop_append_of_le_length (by rw[qAG];omega)]
  have hlen:((s.take i).drop (8*(i / 8))).length=i%8:=by rw[qAd,qAG];omega
  have e1:(((s.take i).drop (8*(i / 8))).take 8)=(s.take i).drop (8*(i / 8)):=qAe (by rw[hlen];omega)
  have e2:(((s.take i).drop (8*(i / 8)))++[b]).take 8=((s.take i).drop (8*(i / 8)))++[b]:=qAe (by rw[qAE,hlen,qAz];omega)
  rw[e1,e2,zOP,hlen]
 ·rw[if_neg hq]
  rcases qAR q k with h1|h1
  ·rw[zFV _ _ _ h1,zFV _ _ _ h1]
   congr 2
   apply qBm
   intro j
   rw[qAS,qAS]
   by_cases h8:j<8
   ·rw[if_pos h8,if_pos h8,qAl,qAl,qAS,qAS]
    by_cases h2:8*q+j<i
    ·rw[if_pos h2,if_pos (by omega)]
    ·rw[if_neg h2,if_neg (by omega)]
   ·rw[if_neg h8,if_neg h8]
  ·rw[qAv (by rw[zEY];exact h1),qAv (by rw[zEY];exact h1)]
theorem zSQ{k:Nat}{s:List UInt8}{i:Nat}{b:UInt8}(h:s[i]?=some b)(hk:i / 8<k): ∃w,(zGr k s)[i / 8]?=some w/\w<18446744073709551616/\w / 256 ^ (i%8)%256=b.toNat:=by
 refine⟨_,zFV k s _ hk,?_,?_⟩
 ·exact zXQ k s _ (qAF (zFV k s _ hk))
 ·refine zQx _ _ _ ?_
  rw[qAS,if_pos (by omega),qAl,show 8*(i / 8)+i%8=i by omega]
  exact h
theorem zal{s:List UInt8}{i:Nat}{b:UInt8}: zFh (((s.take i).drop (8*(i / 8))).take 8) ||| b.toNat*256 ^ (i%8)=zFh (((s.take i).drop (8*(i / 8))).take 8)+b.toNat*256 ^ (i%8):=by
 have h1:=zKW (((s.take i).drop (8*(i / 8))).take 8)
 have h2:(((s.take i).drop (8*(i / 8))).take 8).length<=i%8:=by rw[qAG,qAd,qAG];omega
 have h3:256 ^ (((s.take i).drop (8*(i / 8))).take 8).length<=256 ^ (i%8):=Nat.pow_le_pow_right (by decide) h2
 have e:256 ^ (i%8)=2 ^ (8*(i%8)):=by rw[Nat.pow_mul]
 have h4:zFh (((s.take i).drop (8*(i / 8))).take 8)<2 ^ (8*(i%8)):=by rw[<-e];omega
 have:=Nat.two_pow_add_eq_or_of_lt h4 b.toNat
 rw[e,Nat.or_comm,Nat.mul_comm b.toNat,<-this,Nat.add_comm]
theorem zJP{all:List Thing}{o:Thing}{i:Nat}(h:i<all.length): zAc (all++[o]) i=zAc all i:=by
 unfold zAc
 rw[qAD,qAD,qAI h]
theorem zMR(all:List Thing)(o:Thing): zAc (all++[o]) all.length=o:=by
 unfold zAc
 rw[qAD,qAJ (qAP _),qBM];rfl
theorem zQz{all:List Thing}{o:Thing}: ∀{ly:List Nat} {i:Nat},(∀j∈ly,j<all.length)->offL (all++[o]) ly i=offL all ly i
 |[],_,_=>rfl
 |j::r,i,h=>by
  rw[offL,offL,zJP (h j (List.mem_cons_self ..)),zQz fun k hk=>h k (qAi _ hk)]
theorem zJG{all:List Thing}{o:Thing}: ∀{ly:List Nat},(∀j∈ly,j<all.length)->sumN (all++[o]) ly=sumN all ly
 |[],_=>rfl
 |j::r,h=>by
  rw[zDq,zDq,zJP (h j (List.mem_cons_self ..)),zJG fun k hk=>h k (qAi _ hk)]
theorem zTF{all:List Thing}{ly:List Nat}{o:Thing}{r:Rf}(hlt:∀j∈ly,j<all.length)(hr:In ly r): wdN (all++[o]) (ly++[all.length]) r=wdN all ly r:=by
 cases r with
 |n v=>rfl
 |b i=>rw[wdN,wdN,zKY (hr i rfl),zQz hlt]
theorem zRa{all:List Thing}{ly:List Nat}{o x:Thing}(hlt:∀j∈ly,j<all.length)(hx:∀r∈x.parts,In ly r): zGU (all++[o]) (ly++[all.length]) x=zGU all ly x:=by
 unfold zGU
 split
 ·rfl
 ·exact qBg fun r hr=>zTF hlt (hx r hr)
theorem zNS{α β:Type}{l:List α}{f g:α->List β}(h:∀i∈l,f i=g i): l.flatMap f=l.flatMap g:=by
 rw[List.flatMap_def,List.flatMap_def,qBg h]
theorem zTD{all:List Thing}{ly:List Nat}{o:Thing}(hlt:∀j∈ly,j<all.length)(hcl:Closed all ly)(ho:∀r∈o.parts,In ly r):
  zCG (all++[o]) (ly++[all.length])=zCG all ly++zDM o::zGU all ly o:=by
 have h1:ly.flatMap (zDU (all++[o]) (ly++[all.length]))=ly.flatMap (zDU all ly):=zNS fun i hi=>by
  unfold zDU
  rw[zJP (hlt i hi),zRa (x:=zAc all i) hlt fun r hr j e=>hcl i hi j (e▸hr)]
 have h2:zDU (all++[o]) (ly++[all.length]) all.length=zDM o::zGU all ly o:=by
  unfold zDU
  rw[zMR,zRa hlt ho]
 unfold zCG
 rw[List.flatMap_append,qAf,List.flatMap_nil,qBC,h1,h2]
theorem zbj{all:List Thing}{ly:List Nat}{o:Thing}{size:Nat}(hlt:∀j∈ly,j<all.length)(h:sumN all ly+o.need<=size): begL (all++[o]) (ly++[all.length]) size=(begL all ly size).set (sumN all ly) true:=by
 have e:=zRc (all:=all++[o]) (ord:=ly) (size:=size) (i:=all.length) (by rw[zJG hlt,zMR];exact h)
 rw[zJG hlt]at e
 have h1:(ly.flatMap fun i=>true::List.replicate (zAc (all++[o]) i).size false)=ly.flatMap fun i=>true::List.replicate (zAc all i).size false:=zNS fun i hi=>by rw[zJP (hlt i hi)]
 have h2:begL (all++[o]) ly size=begL all ly size:=by
  unfold begL
  rw[zJG hlt,h1]
 rw[<-e,h2]
def Thing.with0(o:Thing)(b:Rf): Thing:={ o with parts:=o.parts.set 0 b }
theorem zMG(o:Thing)(b:Rf): (o.with0 b).need=o.need:=by
 unfold Thing.with0 Thing.need
 dsimp only
 rw[qAZ]
theorem zR0(o:Thing)(b:Rf): (o.with0 b).size=o.size:=by unfold Thing.size;rw[zMG]
theorem zMz{all:List Thing}{i:Nat}(hi:i<all.length)(b:Rf)(j:Nat): (zAc (all.set i ((zAc all i).with0 b)) j).need=(zAc all j).need:=by
 rw[zFW hi]
 split
 ·subst_vars;exact zMG _ _
 ·rfl
theorem zMQ{all all':List Thing}(h:∀j,(zAc all' j).need=(zAc all j).need): ∀(ly:List Nat) (i:Nat),offL all' ly i=offL all ly i
 |[],_=>rfl
 |j::r,i=>by rw[offL,offL,h,zMQ h r]
theorem zMJ{all all':List Thing}(h:∀j,(zAc all' j).need=(zAc all j).need): ∀(ly:List Nat),sumN all' ly=sumN all ly
 |[]=>rfl
 |j::r=>by rw[zDq,zDq,h,zMJ h r]
theorem zSr{all all':List Thing}(h:∀j,(zAc all' j).need=(zAc all j).need)(ly:List Nat)(size:Nat): begL all' ly size=begL all ly size:=by
 unfold begL Thing.size
 rw[zMJ h]
 congr 1
 exact zNS fun i _=>by rw[h]
theorem zNm{all all':List Thing}(h:∀j,(zAc all' j).need=(zAc all j).need)(ly:List Nat): wdN all' ly=wdN all ly:=by
 funext r
 cases r with
 |n v=>rfl
 |b i=>rw[wdN,wdN,zMQ h]
theorem zRM{all:List Thing}{f f':Nat->List Nat}{i k x:Nat}(hf:∀j,(f j).length=(zAc all j).need)(h1:∀j,j≠i->f' j=f j)(h2:f' i=(f i).set k x)(hk:k<(zAc all i).need):
  ∀{l:List Nat},l.Nodup->i∈l->l.flatMap f'=(l.flatMap f).set (offL all l i+k) x
 |j::r,hn,hi=>by
  rw[qAf,qAf,offL]
  have hn':=List.nodup_cons.1 hn
  by_cases hj:j=i
  ·subst hj
   rw[if_pos rfl,qAY,h2,List.set_append_left k x (by rw[hf];exact hk)]
   congr 1
   exact zNS fun a ha=>h1 a fun e=>hn'.1 (e▸ha)
  ·rw[if_neg hj,h1 j hj,qBX _ x (by rw[hf];omega),hf,show (zAc all j).need+offL all r i+k-(zAc all j).need=offL all r i+k by omega]
   rw[zRM hf h1 h2 hk hn'.2 ((qBL.1 hi).resolve_left fun e=>hj e.symm)]
theorem zTC{all:List Thing}{ly:List Nat}{i:Nat}{b:Rf}(hn:ly.Nodup)(hi:i∈ly)(hlt:i<all.length)(hk:(zAc all i).kind=3)(hp:(zAc all i).parts.length=1):
  zCG (all.set i ((zAc all i).with0 b)) ly=(zCG all ly).set (offL all ly i+1+0) (wdN all ly b):=by
 have hw:=zNm (zMz hlt b) ly
 refine zRM (k:=1) (fun j=>zDf all ly j) ?_ ?_ (by unfold Thing.need;rw[if_neg (by omega)];omega) hn hi
 ·intro j hj
  unfold zDU zGU
  rw[zFW hlt,if_neg (fun e=>hj e.symm),hw]
 ·unfold zDU zGU
  rw[zFW hlt,if_pos rfl,hw]
  have e1:zDM ((zAc all i).with0 b)=zDM (zAc all i):=by unfold zDM;rw[zR0];rfl
  have e2:((zAc all i).with0 b).kind=(zAc all i).kind:=rfl
  rw[e1,e2,if_neg (by omega),if_neg (by omega)]
  show zDM (zAc all i)::List.map _ ((zAc all i).parts.set 0 b)=zDM (zAc all i)::(List.map _ (zAc all i).parts).set 0 _
  rw[qBr]
structure Nn where
 kind:Int
 text:List UInt8
 num:Int
 kids:Int
 deriving Inhabited,DecidableEq
def shN(m:Img)(all:List Thing): Nat->List Nn->Rf->List Nn
 |0,l,_=>l
 |f+1,l,r=>if 4000<l.length then l else match r with
  | .n v=>l++[⟨51,[],v,0⟩]
  | .b i =>
   if(zAc all i).kind=4 then l++[⟨52,(zAc all i).text,0,0⟩]
   else if(zAc all i).kind=1 then(zAc all i).parts.foldl (shN m all f) (l++[⟨53,(m.pool.getD (zAc all i).tag.toNat default).text,0,(zAc all i).parts.length⟩])
   else l++[⟨54,[],0,0⟩]
def rkR: Rf->Nat
 | .n _=>0
 | .b i=>i+1
theorem zNR{α β:Type}{f:β->α->β}{P:β->Prop}: ∀{l:List α} {b:β},(∀b a,a∈l->P b->P (f b a))->P b->P (l.foldl f b)
 |[],_,_,hb=>hb
 |a::l,b,h,hb=>zNR (f:=f) (l:=l) (fun b x hx hp=>h b x (qAi _ hx) hp) (h b a (List.mem_cons_self ..) hb)
theorem zK8(m:Img)(all:List Thing): ∀(f:Nat) (l:List Nn) (r:Rf),l.length<=4001->(shN m all f l r).length<=4001
 |0,l,_,h=>h
 |f+1,l,r,h=>by
  unfold shN
  split
  ·exact h
  ·rename_i hl
   cases r with
   |n v=>simp;omega
   |b i =>
    dsimp only
    split
    ·rw[qAE,qAz];omega
    ·split
     ·refine zNR (P:=fun l=>l.length<=4001) (fun b a _ hb=>zK8 m all f b a hb) ?_
      rw[qAE,qAz];omega
     ·simp;omega
def zEr(m:Img)(all:List Thing)(r:Rf): List Nn:=shN m all (rkR r+1) [] r
structure Sz(s t:St): Prop where
 tr:t.tries.length<=s.tries.length+1
 out:t.out.length<=s.out.length+1
 stk:t.stack.length<=s.stack.length+1
theorem Sz.mk'{s t:St}(h1:t.tries=s.tries)(h2:t.out=s.out)(h3:t.stack.length<=s.stack.length+1): Sz s t:=⟨by rw[h1];omega,by rw[h2];omega,h3⟩
theorem Sz.eq'{s t:St}(h1:t.tries=s.tries)(h2:t.out=s.out)(h3:t.stack=s.stack): Sz s t:=.mk' h1 h2 (by rw[h3];omega)
theorem zPc{α:Type}(l:List α)(n:Nat)(x:α): (l.take n++[x]).length<=l.length+1:=by rw[qAE,qAG,qAz];omega
theorem zPe(s:St)(e:Int): Sz s (s.stop e):=.eq' rfl rfl rfl
theorem zIS(s:St)(n:Nat)(r:Rf): Sz s (s.instead n r):=.mk' rfl rfl (zPc _ _ _)
theorem zRb(s:St)(o:Thing)(n:Nat): Sz s (s.block o n):=by
 unfold St.block St.gc St.alloc
 repeat' split
 all_goals first|exact .eq' rfl rfl rfl|exact .mk' rfl rfl (zPc _ _ _)
theorem zM0(s:St)(n:Int): Sz s (s.raise n):=by
 unfold St.raise;split
 ·exact .eq' rfl rfl rfl
 ·exact⟨by show s.tries.dropLast.length<=_;rw[qAy];omega,by show s.out.length<=_;omega,zPc _ _ _⟩
theorem zdk(s:St)(b:Bool): Sz s (s.app b):=by
 unfold St.app;dsimp only
 repeat' split
 all_goals first|exact .eq' rfl rfl rfl|exact .mk' rfl rfl (zPc _ _ _)
theorem za5(s:St)(p a b:Int): Sz s (s.ints p a b):=by
 unfold St.ints
 repeat' split
 all_goals first|exact zM0 s _|exact zIS s _ _
theorem zcv(s:St)(t:List UInt8): Sz s (s.put t):=⟨by show s.tries.length<=_;omega,by show (s.out++[t]).length<=_;simp,by show s.stack.length<=_;omega⟩
theorem zad(s:St)(r:Rf): Sz s (s.push r):=by
 unfold St.push;split
 ·exact zPe s _
 ·exact zIS s _ _
theorem zaf(shw:Int->List UInt8)(s:St)(p:Int): Sz s (s.prim shw p):=by
 unfold St.prim;dsimp only
 repeat' split
 all_goals first
  |exact za5 s _ _ _
  |exact zPe s _
  |exact zM0 s _
  |exact zRb s _ _
  |exact zIS s _ _
  |exact zcv s _
  |exact .mk' rfl rfl (zPc _ _ _)
  |exact⟨by show s.tries.length<=_;omega,by show (s.out++[_]).length<=_;simp,zPc _ _ _⟩
theorem zYx{u a b:St}{c:Prop}[Decidable c](ha:Sz u a)(hb:Sz u b): Sz u (if c then a else b):=by split <;> assumption
theorem zTf(shw:Int->List UInt8)(m:Img)(s:St): Sz s (step shw m s):=by
 unfold step;dsimp only
 have g:∀{t},Sz (s.goto (s.c.at_+1)) t->Sz s t:=fun h=>⟨h.tr,h.out,h.stk⟩
 refine g ?_
 clear g
 generalize s.goto (s.c.at_+1)=u
 generalize m.code.getD s.c.at_.toNat default=i
 generalize m.pool.getD i.a.toNat default=p1
 generalize m.pool.getD i.b.toNat default=p2
 generalize u.top 0=r
 repeat' (with_reducible refine zYx ?_ ?_)
 all_goals try (cases r <;> dsimp only)
 all_goals repeat' (with_reducible refine zYx ?_ ?_)
 all_goals first
  |exact zPe _ _
  |exact zRb _ _ _
  |exact zad _ _
  |exact zIS _ _ _
  |exact zdk _ _
  |exact zaf _ _ _
  |exact zM0 _ _
  |exact .eq' rfl rfl rfl
  |exact .mk' rfl rfl (zPc _ _ _)
  |exact .mk' rfl rfl (by show (u.stack.take _).length<=_;rw[qAG];omega)
  |exact⟨by show u.tries.dropLast.length<=_;rw[qAy];omega,by show u.out.length<=_;omega,by show u.stack.length<=_;omega⟩
  |exact⟨by show (u.tries++[_]).length<=_;simp,by show u.out.length<=_;omega,by show u.stack.length<=_;omega⟩
structure Run(con:List UInt8->Bool)(m:Img)(A:Nat->Option VS)(words:Int)(fuel:Nat)(T:St)(shw:Int->List UInt8)(s:St)(k:Nat): Prop where
 res:Res con m A s
 steps:s.steps=k
 le:k<=fuel
 words:s.words=words
 tr:s.tries.length<=k
 out:s.out.length<=k
 stk:s.stack.length<=k
 tw:runS shw m (fuel-k) s=T
variable {con:List UInt8->Bool}{m:Img}{A:Nat->Option VS}{words:Int}{fuel:Nat}{T:St}{shw:Int->List UInt8}
theorem Run.begin_(hg:Good con m A)(hi:ImgOk m)(hw:0<=words): Run con m A words fuel (runS shw m fuel (start words)) shw (start words) 0 :=
 ⟨.of rfl (MOk.start hg hi hw),rfl,qAQ _,rfl,qAP _,qAP _,qAP _,rfl⟩
theorem Run.next{s:St}{k:Nat}(h:Run con m A words fuel T shw s k)(h0:s.fin=0)(hk:k<fuel):
  MOk con m A { s with steps:=s.steps+1 }/\Run con m A words fuel T shw (step shw m { s with steps:=s.steps+1 }) (k+1):=by
 have hm:=(h.res.ok h0).more
 have hz:=zTf shw m { s with steps:=s.steps+1 }
 have hf:=zWo shw m { s with steps:=s.steps+1 }
 have htr:=hz.tr
 have hou:=hz.out
 have hsk:=hz.stk
 refine⟨hm,zZz shw hm h0,?_,hk,hf.words.trans h.words,?_,?_,?_,?_⟩
 ·rw[hf.steps];show s.steps+1=_;rw[h.steps];omega
 ·have:=h.tr;change _<=s.tries.length+1 at htr;omega
 ·have:=h.out;change _<=s.out.length+1 at hou;omega
 ·have:=h.stk;change _<=s.stack.length+1 at hsk;omega
 ·rw[<-zW1 shw m _ s h0,show fuel-(k+1)+1=fuel-k by omega];exact h.tw
theorem Run.out_{s:St}{k:Nat}(h:Run con m A words fuel T shw s k)(h0:s.fin=0)(hk:¬k<fuel): T=s.stop 3:=by
 have:=h.le
 rw[<-h.tw,show fuel-k=0 by omega,runS,if_pos h0]
theorem Run.done{s:St}{k:Nat}(h:Run con m A words fuel T shw s k)(h0:s.fin≠0): T=s:=by
 rw[<-h.tw,zQo shw m _ s h0]
end Go.Vm
namespace Go.Vm
variable {con:List UInt8->Bool}{m:Img}{A:Nat->Option VS}
def CK.popd(c:CK): CK:={ c with work:=c.work.dropLast }
def CK.stAt(c:CK)(k:Int): CS:=((c.at_[k.toNat]?).getD none).getD ⟨0,0,[]⟩
def CK.lastW(c:CK): Int:=(c.work.getLast?).getD 0
def CK.round(con:List UInt8->Bool)(m:Img)(c:CK): CK:=c.popd.doC con m c.lastW (c.stAt c.lastW)
def CK.run(con:List UInt8->Bool)(m:Img): Nat->CK->CK
 |0,c=>c
 |n+1,c=>if c.bad=true\/c.work=[]then c else CK.run con m n (c.round con m)
def CK.free(c:CK): Nat:=(c.at_.filter Option.isNone).length
def CK.mu(c:CK): Nat:=2*c.free+c.work.length
theorem zSm{l:List (Option CS)}: ∀{k:Nat} {s:CS},l[k]?=some none->((l.set k (some s)).filter Option.isNone).length+1=(l.filter Option.isNone).length:=by
 induction l with
 |nil=>intro k s h;simp at h
 |cons a r ih =>
  intro k s h
  cases k with
  |zero =>
   simp at h;subst h
   simp
  |succ k =>
   simp at h
   have:=ih (s:=s) h
   rw[List.set_cons_succ,qBI,qBI]
   split
   ·rw[qAN,qAN];omega
   ·exact this
theorem zP8(c:CK)(k:Int)(s:CS): (c.come k s).mu<=c.mu:=by
 unfold CK.come
 split
 ·exact qAP _
 ·rename_i h
  have:=zSm (s:=s) h
  unfold CK.mu CK.free
  show 2*((c.at_.set k.toNat (some s)).filter Option.isNone).length+(c.work++[k]).length<=_
  rw[qAE,qAz];omega
 ·split <;> exact qAP _
theorem zRS{s:CS}: ∀(tw:List Int) (c:CK),(tw.foldl (fun c t=>c.come t s) c).mu<=c.mu
 |[],_=>qAP _
 |t::r,c=>qAu (zRS r (c.come t s)) (zP8 c t s)
theorem zYH(c:CK)(k n:Int): (c.begin k n).mu<=c.mu:=by
 unfold CK.begin
 split
 ·exact qAP _
 ·exact zP8 ({ c with has:=putI c.has k (n+1) }:CK) _ _
theorem zKQ(c:CK)(s:CS)(fl a b:Int)(h:Bool)(tw:List Int): (c.stepC s fl a b h tw).mu<=c.mu:=by
 unfold CK.stepC
 split
 ·exact qAP _
 ·exact zRS tw c
theorem zeq(con:List UInt8->Bool)(m:Img)(c:CK)(k:Int)(s:CS): (c.doC con m k s).mu<=c.mu:=by
 unfold CK.doC
 dsimp only
 split
 ·split
  ·exact qAP _
  ·exact zKQ _ _ _ _ _ _ _
 ·split
  ·exact qAu (zP8 _ _ _) (zKQ _ _ _ _ _ _ _)
  ·split
   ·exact qAu (zYH _ _ _) (zKQ _ _ _ _ _ _ _)
   ·exact zKQ _ _ _ _ _ _ _
theorem zQp(con:List UInt8->Bool)(m:Img){c:CK}(h:c.work≠[]): (c.round con m).mu<c.mu:=by
 refine Nat.lt_of_le_of_lt (zeq con m c.popd _ _) ?_
 unfold CK.mu CK.popd
 have:0<c.work.length:=qA3.2 h
 show 2*c.free+c.work.dropLast.length<_
 rw[qAy];omega
structure CRun(con:List UInt8->Bool)(m:Img)(T:CK)(c:CK): Prop where
 inv:CInv m c
 seen:c.bad=false->Seen con m c
 zero:c.bad=false->c.at_[0]?=some (some ⟨-1,0,[]⟩)
 ag:∀A,Good con m A->Ag A c
 tw:CK.run con m c.mu c=T
theorem zQn(con:List UInt8->Bool)(m:Img): ∀(n k:Nat) (c:CK),c.mu<=n->c.mu<=k->CK.run con m n c=CK.run con m k c
 |0,0,_,_,_=>rfl
 |0,k+1,c,h,_=>by
  have:c.work=[]:=by
   have:c.work.length=0:=by unfold CK.mu at h;omega
   exact List.length_eq_zero_iff.1 this
  rw[CK.run,CK.run,if_pos (.inr this)]
 |n+1,0,c,_,h=>by
  have:c.work=[]:=by
   have:c.work.length=0:=by unfold CK.mu at h;omega
   exact List.length_eq_zero_iff.1 this
  rw[CK.run,CK.run,if_pos (.inr this)]
 |n+1,k+1,c,h1,h2=>by
  rw[CK.run,CK.run]
  split
  ·rfl
  ·rename_i hc
   have:=zQp con m (c:=c) fun e=>hc (.inr e)
   exact zQn con m n k _ (by omega) (by omega)
theorem CRun.next(him:ImgOk m){T c:CK}(h:CRun con m T c)(hb:c.bad=false)(hw:c.work≠[]):
  ∃k s,c.work=c.work.dropLast++[k]/\0<=k/\k.toNat<m.code.length/\c.popd.at_[k.toNat]?=some (some s)/\CInv m c.popd/\CRun con m T (c.popd.doC con m k s)/\(c.popd.doC con m k s).mu<c.mu:=by
 obtain⟨k,hk⟩:∃k,c.work.getLast? = some k:=by
  cases hg:c.work.getLast? with
  |none=>exact absurd (qBa.1 hg) hw
  |some k=>exact⟨k,rfl⟩
 have e:=zJF hk
 obtain⟨s,hat,h0,c1,c2,hx,hs⟩:=zSD him h.inv (h.seen hb) e hb
 have hr:c.round con m=c.popd.doC con m k s:=by
  unfold CK.round CK.lastW CK.stAt
  rw[hk]
  show CK.doC con m c.popd k (((c.at_[k.toNat]?).getD none).getD ⟨0,0,[]⟩)=_
  rw[hat];rfl
 have hmu:=zQp con m (c:=c) hw
 rw[hr]at hmu
 refine⟨k,s,e,h0,zKD h.inv hat,hat,c1,⟨c2,hs,fun _=>hx.at_ 0 _ (h.zero hb),fun A hg=>?_,?_⟩,hmu⟩
 ·have ha:=h.ag A hg
  exact zes hg him c1 ⟨ha.at_,ha.has,ha.nb⟩ h0 hat
 ·rw[<-h.tw]
  have hpos:0<c.mu:=by omega
  obtain⟨n,hn⟩:∃n,c.mu=n+1:=⟨c.mu-1,by omega⟩
  rw[hn,CK.run,if_neg (by rintro(h|h);rw[hb]at h;cases h;exact hw h),hr]
  exact zQn con m _ _ _ (qAP _) (by omega)
theorem CRun.done{T c:CK}(h:CRun con m T c)(hd:c.bad=true\/c.work=[]): T=c:=by
 rw[<-h.tw]
 cases hn:c.mu with
 |zero=>rfl
 |succ n=>rw[CK.run,if_pos hd]
theorem CRun.ok{T:CK}(h:CRun con m T T)(hd:T.bad=true\/T.work=[]): T.bad=false↔zR3 con m:=by
 constructor
 ·intro hb
  rcases hd with h1|h1
  ·rw[hb]at h1;cases h1
  ·exact(h.seen hb).good h.inv h1 (h.zero hb)
 ·intro ⟨A,hg⟩
  exact(h.ag A hg).nb
def ck0(m:Img): CK:=⟨List.replicate m.code.length none,[],[],false⟩
def ck1(m:Img): CK:=(ck0 m).come 0 ⟨-1,0,[]⟩
def ckT(con:List UInt8->Bool)(m:Img): CK:=CK.run con m (ck1 m).mu (ck1 m)
theorem zO1{m:Img}{k:Nat}{s:CS}: ¬(ck0 m).at_[k]?=some (some s):=by
 intro h
 have h:(List.replicate m.code.length (none:Option CS))[k]?=some (some s):=h
 rw[List.getElem?_replicate]at h
 split at h
 ·injection h with h;cases h
 ·cases h
theorem zQB(m:Img): CInv m (ck0 m):=⟨by simp[ck0],fun k s h=>absurd h zO1,fun k s h=>absurd h zO1,fun f h=>absurd rfl h,fun k h=>by simp[ck0]at h⟩
theorem zVT(con:List UInt8->Bool)(m:Img): CRun con m (ckT con m) (ck1 m):=by
 obtain⟨h1,h2,h3⟩:=zJc (zQB m) (k:=0) (s:=⟨-1,0,[]⟩) (qBO 0) (.inl rfl) ⟨List.Pairwise.nil,by simp[fullV],qBO 0⟩
 refine⟨h2,fun hb k s hk hw=>?_,fun hb=>h3 hb,fun A hg=>?_,rfl⟩
 ·exact absurd (h1.work k s hk hw).1 zO1
 ·exact zNW hg (zQB m) ⟨fun k s h=>absurd h zO1,fun f h=>absurd rfl h,rfl⟩ hg.zero
end Go.Vm
namespace Go.Proofs.YtcagoomibpcdlaaGreatDoor
open _root_.Go.Proofs.Tryz
open Go.Sx
attribute [local irreducible] zAL Program.underlying Ylds zA2 alex zBZ zBP awp zAb zBh zBg zAW zAp zBR zAr zBV zBY zBe zBM
theorem zau{s:List UInt8}(h:s≠[]): (0:Int)<(s.length:Int):=by
 cases s with
 |nil=>exact absurd rfl h
 |cons=>simp
theorem zQW{p:UInt8->Prop}(h:∀n:Fin 256,p (UInt8.ofNat n.1))(c:UInt8): p c:=by
 have:=h ⟨c.toNat,c.toNat_lt⟩
 simpa using this
theorem zeo: ∀c,isK c=1↔zGt c=true:=zQW (by decide +kernel)
theorem zen: ∀c,isK c=2↔zGu c=true:=zQW (by decide +kernel)
theorem ze6: ∀c,btw 1 4 c=zHR c:=zQW (by decide +kernel)
theorem ze5: ∀c,btw 5 5 c=zFm c:=zQW (by decide +kernel)
theorem zQb(p:UInt8->Bool)(s:List UInt8): zL6 p s=s.length↔s.all p=true:=by
 induction s with
 |nil=>simp[zL6]
 |cons c s ih =>
  rw[zL6,List.all_cons]
  cases p c with
  |false=>simp
  |true=>simp[ih]
theorem zZW(s:List UInt8): ((0+zL6 (btw 1 4) (s.drop 0):Nat):Int)=(s.length:Int)↔s.all zHR=true:=by
 rw[<-zQb,show btw 1 4=zHR from funext ze6,List.drop_zero,qAY];omega
theorem zZV(s:List UInt8): ((0+zL6 (btw 5 5) (s.drop 0):Nat):Int)=(s.length:Int)↔s.all zFm=true:=by
 rw[<-zQb,show btw 5 5=zFm from funext ze5,List.drop_zero,qAY];omega
theorem zSH(t:Tk)(hs:t.text.length<=9223372036854775807): zAb prog 161 [t.av] (bl (zLF t)):=by
 refine zAj func161 rfl ntmps161 results161 rfl ?_
 intro wb St0
 repeat' first|apply en_n|apply zAE|apply zAA|apply zAB|apply w0|refine k1u (hd:=rfl) rfl rfl ?_|(apply zD2;exact rfl;with_reducible exact ustr)|exact zS4 rfl rfl|exact zRi rfl rfl|(apply zAR (hb:=zbO) (hc:=zaW t.text))|(apply zAR (hb:=zIV) (hc:=zIM t.num))|(apply zAR (hb:=zdS) (hc:=zdN (t.text.getD 0 0)))|exact ycA zRA (zNl t.text 0 1 4 hs (qAQ _))|exact ycA zRA (zNl t.text 0 5 5 hs (qAQ _))|(apply zLz (i:=0);exact rfl;exact rfl;with_reducible exact ustr;exact⟨by omega,zau (by assumption)⟩)|refine aBoA ?_|refine ayA rfl ?_|apply ay (hd:=rfl)|exact zES rfl rfl|exact zH7 rfl rfl|exact zFC rfl rfl|refine w1 rfl rfl ?_|refine k1 (hd:=rfl) rfl rfl ?_|(apply gD;exact rfl;exact rfl;all_goals intro hb)|(apply zBO;exact rfl;all_goals intro hb)|apply zAO|apply zAP|apply zAM|refine awDA ?_|apply en_r|apply eb_n|apply eb_r|apply zAS|refine res1 rfl ?_|exact zAH|refine zAN rfl ?_
 all_goals refine zDn ?_
 all_goals try simp only[zZW,zZV]at *
 all_goals try (have hp:(t.pos<0)=False:=eq_false (by assumption);simp only[zLF,hp,if_false])
 all_goals try simp_all [zLF,zOU,allF,zeo,zen]
 all_goals first|omega|(obtain⟨x,hx,hn⟩:=hb;intro h;rw[h x hx]at hn;cases hn)
theorem zT6(t:Tk)(hs:t.text.length<=1000000): zAb prog 161 [t.av] (bl (zLF t)):=zSH t (by omega)
end Go.Proofs.YtcagoomibpcdlaaGreatDoor
namespace Go.Vm
variable {con:List UInt8->Bool}{m:Img}
def cnt(c:CK): Nat:=(c.at_.filter Option.isSome).length
theorem zMY(c:CK): cnt c<=c.at_.length:=qBD _ _
structure CB(c:CK): Prop where
 hgt:∀(q:Nat) (x:CS),c.at_[q]?=some (some x)->x.height<=cnt c/\x.tries.length<=cnt c
 wrk:c.work.length<=cnt c
 has:∀f,getI c.has f<=1048577
theorem zP7{l:List (Option CS)}: ∀{k:Nat} {s:CS},l[k]?=some none->((l.set k (some s)).filter Option.isSome).length=(l.filter Option.isSome).length+1:=by
 induction l with
 |nil=>intro k s h;simp at h
 |cons a r ih =>
  intro k s h
  cases k with
  |zero =>
   simp at h;subst h
   simp
  |succ k =>
   simp at h
   have:=ih (s:=s) h
   rw[List.set_cons_succ,qBI,qBI]
   split
   ·rw[qAN,qAN];omega
   ·exact this
theorem zNV{c:CK}(hb:CB c){k:Int}{s:CS}(h1:s.height<=cnt c+1)(h2:s.tries.length<=cnt c+1): CB (c.come k s)/\cnt c<=cnt (c.come k s):=by
 unfold CK.come
 split
 ·exact⟨⟨hb.hgt,hb.wrk,hb.has⟩,qAP _⟩
 ·rename_i h
  have hc:cnt { c with at_:=c.at_.set k.toNat (some s),work:=c.work++[k] }=cnt c+1:=zP7 h
  refine⟨⟨fun q x hq=>?_,?_,hb.has⟩,by rw[hc];omega⟩
  ·rw[hc]
   change (c.at_.set k.toNat (some s))[q]?=some (some x)at hq
   rw[qAX]at hq
   split at hq
   ·split at hq
    ·injection hq with hq;injection hq with hq;subst hq
     exact⟨by push_cast;omega,h2⟩
    ·cases hq
   ·have:=hb.hgt q x hq
    exact⟨by push_cast;omega,by omega⟩
  ·rw[hc]
   show (c.work++[k]).length<=_
   rw[qAE,qAz]
   have:=hb.wrk;omega
 ·split
  ·exact⟨hb,qAP _⟩
  ·exact⟨⟨hb.hgt,hb.wrk,hb.has⟩,qAP _⟩
theorem zNU{s:CS}: ∀(l:List Int) {c:CK},CB c->s.height<=cnt c+1->s.tries.length<=cnt c+1->CB (l.foldl (fun c t=>c.come t s) c)/\cnt c<=cnt (l.foldl (fun c t=>c.come t s) c)
 |[],_,hb,_,_=>⟨hb,qAP _⟩
 |t::r,c,hb,h1,h2=>by
  obtain⟨h3,h4⟩:=zNV hb (k:=t) h1 h2
  obtain⟨h5,h6⟩:=zNU (s:=s) r h3 (by omega) (by omega)
  exact⟨h5,qAu h4 h6⟩
theorem zdU{c:CK}(hb:CB c){k n:Int}(hn:n<=1048576): CB { c with has:=putI c.has k (n+1) } :=
 ⟨hb.hgt,hb.wrk,fun f=>by
  show getI (putI c.has k (n+1)) f<=_
  rw[zKa]
  split
  ·omega
  ·exact hb.has f⟩
theorem zYI{c:CK}(hb:CB c){k n:Int}(hn:n<=1048576): CB (c.begin k n):=by
 unfold CK.begin
 split
 ·exact⟨hb.hgt,hb.wrk,hb.has⟩
 ·exact(zNV (zdU hb hn) (k:=k) (s:=⟨k,1,[]⟩) (by show (1:Int)<=_;omega) (by simp)).1
theorem zIK{c:CK}(hb:CB c){s:CS}{fl a b:Int}{h:Bool}{l:List Int}(h1:s.height-a+b<=cnt c+1)(h2:s.tries.length<=cnt c+1): CB (c.stepC s fl a b h l)/\cnt c<=cnt (c.stepC s fl a b h l):=by
 unfold CK.stepC
 split
 ·exact⟨⟨hb.hgt,hb.wrk,hb.has⟩,qAP _⟩
 ·exact zNU l hb h1 h2
theorem zUL{c:CK}(hb:CB c): CB c.popd:=⟨hb.hgt,by show c.work.dropLast.length<=cnt c;rw[qAy];have:=hb.wrk;omega,hb.has⟩
theorem zda{i:Ins}{v:VS}: 0<=(eff con m i v).puts/\(eff con m i v).puts<=1:=by
 have ite:∀{a b:Eff} {c:Prop} [Decidable c],(0<=a.puts/\a.puts<=1)->(0<=b.puts/\b.puts<=1)->0<=(if c then a else b).puts/\(if c then a else b).puts<=1:=fun ha hb=>by split <;> assumption
 unfold eff;dsimp only
 repeat' (with_reducible refine ite ?_ ?_)
 all_goals (dsimp only;omega)
theorem zdZ{i:Ins}{v:VS}(ha:0<=i.a/\i.a<=1048576)(hb:0<=i.b/\i.b<=1048576): 0<=(eff con m i v).takes/\(eff con m i v).takes<=1048577:=by
 have ite:∀{a b:Eff} {c:Prop} [Decidable c],(0<=a.takes/\a.takes<=1048577)->(0<=b.takes/\b.takes<=1048577)->0<=(if c then a else b).takes/\(if c then a else b).takes<=1048577:=fun ha hb=>by split <;> assumption
 have ht:0<=takes i.a/\takes i.a<=1048577:=by unfold takes;split;omega;split <;> omega
 unfold eff;dsimp only
 repeat' (with_reducible refine ite ?_ ?_)
 all_goals first|exact ht|(dsimp only;omega)
theorem zer(him:ImgOk m){c:CK}(hb:CB c){k:Int}{s:CS}(_hk:0<=k)(hl:k.toNat<m.code.length)(hat:c.at_[k.toNat]?=some (some s)): CB (c.doC con m k s):=by
 obtain⟨i,hi⟩:∃i,m.code[k.toNat]?=some i:=⟨_,qAB hl⟩
 have hg:m.code.getD k.toNat default=i:=by rw[qAD,hi];rfl
 obtain⟨o0,o20,a0,a1,b0,b1,hgo⟩:=him.ins i (qAF hi)
 obtain⟨h1,h2⟩:=hb.hgt _ _ hat
 unfold CK.doC
 dsimp only
 rw[hg]
 split
 ·split
  ·exact⟨hb.hgt,hb.wrk,hb.has⟩
  ·exact(zIK hb (s:={ s with tries:=s.tries.dropLast }) (by show s.height-0+0<=_;omega) (by show s.tries.dropLast.length<=_;rw[qAy];omega)).1
 ·split
  ·obtain⟨h3,h4⟩:=zIK hb (s:=s) (fl:=zA1 (fullV c s)) (a:=0) (b:=1) (h:=true) (l:=[i.a]) (by omega) (by omega)
   exact(zNV h3 (k:=k+1) (s:=⟨s.of,s.height,s.tries++[s.height]⟩) (by show s.height<=_;omega) (by show (s.tries++[s.height]).length<=_;rw[qAE,qAz];omega)).1
  ·split
   ·obtain⟨h3,h4⟩:=zIK hb (s:=s) (fl:=zA1 (fullV c s)) (a:=i.b) (b:=1) (h:=true) (l:=[k+1]) (by omega) (by omega)
    exact zYI h3 b1
   ·have p1:=zda (con:=con) (m:=m) (i:=i) (v:=fullV c s)
    have p2:=zdZ (con:=con) (m:=m) (i:=i) (v:=fullV c s) ⟨a0,a1⟩ ⟨b0,b1⟩
    exact(zIK hb (by omega) (by omega)).1
theorem zN0{c:CK}(hc:CInv m c){s:CS}{fl tk pt:Int}{h:Bool}(l:List Int)(h0:∀t∈l,0<=t)(hs:s.of = -1\/(0<=s.of/\0<getI c.has s.of))(ht:TrOk (fullV c s))(hf:zA1 (fullV c s)<=fl\/zA1 (fullV c s)<=s.height-tk)(hp:0<=pt): CInv m (c.stepC s fl tk pt h l) :=
 (zHL (tw:=l) hc h0 hs ht hf hp).2.1
end Go.Vm
namespace Go.Vm
inductive Gr (s t:St):Prop where
 |same (h:t.all=s.all)
 |more (o:Thing) (h:t.all=s.all++[o]) (hp:∀i,Rf.b i∈o.parts->Rf.b i∈s.stack) (ht:o.kind=4\/o.text=[])
 |put (i:Nat) (o:Thing) (h:t.all=s.all.set i o) (hp:∀j,Rf.b j∈o.parts->Rf.b j∈(s.all.getD i default).parts\/Rf.b j∈s.stack) (ht:o.kind=(s.all.getD i default).kind/\o.text=(s.all.getD i default).text)
theorem zeF{s:St}{k i:Nat}(h:s.top k=.b i): Rf.b i∈s.stack:=by
 unfold St.top at h
 rw[qAD]at h
 cases e:s.stack[s.stack.length-1-k]? with
 |none=>rw[e]at h;cases h
 |some r=>rw[e]at h;have h:r=.b i:=h;subst h;exact qAF e
theorem zKe(s:St)(o:Thing)(n:Nat)(hp:∀i,Rf.b i∈o.parts->Rf.b i∈s.stack)(ht:o.kind=4\/o.text=[]): Gr s (s.block o n):=by
 unfold St.block St.gc St.alloc
 repeat' split
 all_goals first|exact .same rfl|exact .more o rfl hp ht
theorem zM3(s:St)(n:Int): Gr s (s.raise n):=by
 unfold St.raise;split <;> exact .same rfl
theorem zdm(s:St)(b:Bool): Gr s (s.app b):=by
 unfold St.app;dsimp only
 repeat' split
 all_goals exact .same rfl
theorem za6(s:St)(p a b:Int): Gr s (s.ints p a b):=by
 unfold St.ints
 repeat' split
 all_goals first|exact zM3 s _|exact .same rfl
theorem zae(s:St)(r:Rf): Gr s (s.push r):=by
 unfold St.push;split <;> exact .same rfl
theorem zQv(s:St)(n:Nat): ∀i,Rf.b i∈s.partsT n->Rf.b i∈s.stack:=fun _ hi=>qAo hi
theorem zah(shw:Int->List UInt8)(s:St)(p:Int): Gr s (s.prim shw p):=by
 unfold St.prim;dsimp only
 repeat' split
 all_goals first
  |exact za6 s _ _ _
  |exact zM3 s _
  |exact zKe s _ _ (fun i hi=>by cases hi) (.inl rfl)
  |exact zKe s _ _ (zQv s 1) (.inr rfl)
  |exact .same rfl
  |skip
 rename_i i _ _
 refine .put i _ rfl (fun j hj=>?_) ⟨rfl,rfl⟩
 rcases qBZ hj with h|h
 ·exact .inl h
 ·exact .inr (zeF h.symm)
theorem zYz{u a b:St}{c:Prop}[Decidable c](ha:Gr u a)(hb:Gr u b): Gr u (if c then a else b):=by split <;> assumption
theorem zZ0(shw:Int->List UInt8)(m:Img)(s:St): Gr s (step shw m s):=by
 unfold step;dsimp only
 have g:∀{t},Gr (s.goto (s.c.at_+1)) t->Gr s t:=fun h=>by
  cases h with
  |same h=>exact .same h
  |more o h hp ht=>exact .more o h hp ht
  |put i o h hp ht=>exact .put i o h hp ht
 refine g ?_
 clear g
 generalize s.goto (s.c.at_+1)=u
 generalize m.code.getD s.c.at_.toNat default=i
 generalize m.pool.getD i.a.toNat default=p1
 generalize m.pool.getD i.b.toNat default=p2
 generalize u.top 0=r
 repeat' (with_reducible refine zYz ?_ ?_)
 all_goals try (cases r <;> dsimp only)
 all_goals repeat' (with_reducible refine zYz ?_ ?_)
 all_goals first
  |exact zKe u _ _ (fun i hi=>by cases hi) (.inl rfl)
  |exact zKe u _ _ (zQv u _) (.inr rfl)
  |exact zae u _
  |exact zdm u _
  |exact zah shw u _
  |exact zM3 u _
  |exact .same rfl
variable {con:List UInt8->Bool}{m:Img}{A:Nat->Option VS}
def stA(L:List (Option VS))(k:Nat): Option VS:=(L[k]?).join
def addV(L:List (Option VS)×Bool)(p:Int×VS): Option (List (Option VS)×Bool):=match stA L.1 p.1.toNat with
 |some x=>if x=p.2 then some L else none
 |none=>some (L.1.set p.1.toNat (some p.2),true)
def zJe: List (Int×VS)->List (Option VS)×Bool->Option (List (Option VS)×Bool)
 |[],L=>some L
 |p::r,L=>(addV L p).bind (zJe r)
def zIe(con:List UInt8->Bool)(m:Img)(k:Nat)(L:List (Option VS)×Bool): Option (List (Option VS)×Bool):=match stA L.1 k with
 |none=>some L
 |some s=>(zGs con m k s).bind fun l=>zJe l L
def zJu(con:List UInt8->Bool)(m:Img): Nat->Nat->List (Option VS)×Bool->Option (List (Option VS)×Bool)
 |0,_,L=>some L
 |n+1,k,L=>(zIe con m k L).bind (zJu con m n (k+1))
def zER(con:List UInt8->Bool)(m:Img): Nat->List (Option VS)->Option (List (Option VS))
 |0,_=>none
 |f+1,L=>(zJu con m m.code.length 0 (L,false)).bind fun r=>if r.2 then zER con m f r.1 else some r.1
def cntS(L:List (Option VS)): Nat:=(L.filter Option.isSome).length
theorem zNX(L:List (Option VS)): cntS L<=L.length:=qBD _ _
theorem zKc: ∀{L:List (Option VS)} {k:Nat} {v:VS},L[k]?=some none->cntS (L.set k (some v))=cntS L+1
 |[],k,v,h=>by simp at h
 |a::r,0,v,h=>by
  simp at h;subst h
  simp[cntS]
 |a::r,k+1,v,h=>by
  simp at h
  have:=zKc (v:=v) h
  unfold cntS at *
  rw[List.set_cons_succ,qBI,qBI]
  split
  ·rw[qAN,qAN];omega
  ·exact this
theorem zQa{L:List (Option VS)}{k:Nat}(hk:k<L.length)(h:stA L k=none): L[k]?=some none:=by
 unfold stA at h
 rw[qAB hk]at h ⊢
 cases e:L[k]with
 |none=>rfl
 |some x=>rw[e]at h;cases h
theorem zMy{L:List (Option VS)}{k:Nat}{v:VS}(h:stA L k=some v): L[k]?=some (some v):=by
 unfold stA at h
 cases e:L[k]? with
 |none=>rw[e]at h;cases h
 |some x=>rw[e]at h;cases x with
  |none=>cases h
  |some y=>have h:some y=some v:=h;rw[h]
theorem zK7{L:List (Option VS)}{k q:Nat}{v:VS}(hk:k<L.length): stA (L.set k (some v)) q=if k=q then some v else stA L q:=by
 unfold stA
 rw[qAX]
 by_cases e:k=q
 ·rw[if_pos e,if_pos e,if_pos hk];rfl
 ·rw[if_neg e,if_neg e]
structure Grow(L L':List (Option VS)×Bool): Prop where
 len:L'.1.length=L.1.length
 mono:∀k v,stA L.1 k=some v->stA L'.1 k=some v
 same:L'.2=false->L.2=false/\L'.1=L.1
 cnt:cntS L.1<=cntS L'.1
 more:L.2=false->L'.2=true->cntS L.1<cntS L'.1
theorem Grow.refl(L:List (Option VS)×Bool): Grow L L:=⟨rfl,fun _ _ h=>h,fun h=>⟨h,rfl⟩,qAP _,fun h h'=>by rw[h]at h';cases h'⟩
theorem Grow.trans{a b c:List (Option VS)×Bool}(h:Grow a b)(g:Grow b c): Grow a c:=by
 refine⟨g.len.trans h.len,fun k v hv=>g.mono k v (h.mono k v hv),fun hc=>?_,qAu h.cnt g.cnt,fun ha hc=>?_⟩
 ·obtain⟨h1,h2⟩:=g.same hc
  obtain⟨h3,h4⟩:=h.same h1
  exact⟨h3,h2.trans h4⟩
 ·cases hb:b.2 with
  |false=>exact Nat.lt_of_le_of_lt h.cnt (g.more hb hc)
  |true=>exact qAa (h.more ha hb) g.cnt
theorem zNb{L L':List (Option VS)×Bool}{p:Int×VS}(hk:p.1.toNat<L.1.length)(h:addV L p=some L'): Grow L L'/\stA L'.1 p.1.toNat=some p.2:=by
 unfold addV at h
 cases e:stA L.1 p.1.toNat with
 |some x =>
  rw[e]at h;dsimp only at h
  split at h
  ·rename_i hx
   injection h with h;subst h
   exact⟨.refl _,by rw[e,hx]⟩
  ·cases h
 |none =>
  rw[e]at h;injection h with h;subst h
  have hn:=zQa hk e
  refine⟨⟨by simp,fun k v hv=>?_,fun c=>(by cases c),?_,fun _ _=>?_⟩,?_⟩
  ·show stA (L.1.set _ _) k=_
   rw[zK7 hk]
   split
   ·rename_i hq;subst hq;rw[e]at hv;cases hv
   ·exact hv
  ·show _<=cntS (L.1.set _ _);rw[zKc hn];omega
  ·show _<cntS (L.1.set _ _);rw[zKc hn];omega
  ·show stA (L.1.set _ _) _=_;rw[zK7 hk,if_pos rfl]
theorem zLx: ∀(l:List (Int×VS)) {L L':List (Option VS)×Bool},(∀p∈l,p.1.toNat<L.1.length)->zJe l L=some L'->Grow L L'/\∀p∈l,stA L'.1 p.1.toNat=some p.2
 |[],L,L',_,h=>by injection h with h;subst h;exact⟨.refl _,fun p hp=>by cases hp⟩
 |p::r,L,L',hk,h=>by
  rw[zJe]at h
  cases e:addV L p with
  |none=>rw[e]at h;cases h
  |some M =>
   rw[e]at h
   obtain⟨g1,g2⟩:=zNb (hk p (by simp)) e
   obtain⟨g3,g4⟩:=zLx r (fun q hq=>by rw[g1.len];exact hk q (qAi _ hq)) h
   refine⟨g1.trans g3,fun q hq=>?_⟩
   rcases qBL.1 hq with rfl|hq
   ·exact g3.mono _ _ g2
   ·exact g4 q hq
theorem zY4{i:Ins}{s:VS}(ha:0<=i.a)(hb:0<=i.b): 0<=(eff con m i s).takes/\0<=(eff con m i s).puts/\(eff con m i s).puts<=1:=by
 have hi:∀{c:Prop} [Decidable c] {x y:Eff},(0<=x.takes/\0<=x.puts/\x.puts<=1)->(0<=y.takes/\0<=y.puts/\y.puts<=1)->(0<=(if c then x else y).takes/\0<=(if c then x else y).puts/\(if c then x else y).puts<=1):=by
  intro c _ x y h1 h2;split
  ·exact h1
  ·exact h2
 have ht:0<=takes i.a:=by unfold takes;repeat' split <;> omega
 unfold eff;dsimp only
 repeat' (with_reducible refine hi ?_ ?_)
 all_goals (refine⟨?_,?_,?_⟩ <;> dsimp only <;> omega)
theorem zVJ{i:Ins}{s:VS}(h0:0<=i.op)(h20:i.op<=20)(h:(eff con m i s).there=true): 15<=i.op:=by
 have hi:∀{c:Prop} [Decidable c] {x y:Eff},(c->x.there=true->15<=i.op)->(¬c->y.there=true->15<=i.op)->((if c then x else y).there=true->15<=i.op):=by
  intro c _ x y h1 h2 h;split at h
  ·exact h1 ‹_› h
  ·exact h2 ‹_› h
 revert h
 unfold eff;dsimp only
 repeat' (with_reducible refine hi (fun _=>?_) (fun _=>?_))
 all_goals (dsimp only;intro h)
 all_goals first|omega|cases h
theorem zav(him:ImgOk m){k:Nat}{s:VS}{l:List (Int×VS)}(hk:k<m.code.length)(hs:TrOk s)(h:zGs con m k s=some l):
  ∀p∈l,0<=p.1/\p.1<m.code.length/\TrOk p.2/\p.2.height<=s.height+1/\p.2.tries.length<=s.tries.length+1:=by
 obtain⟨i,hi⟩:∃i,m.code[k]?=some i:=⟨_,qAB hk⟩
 have hg:m.code.getD k default=i:=by rw[qAD,hi];rfl
 obtain⟨o0,o20,a0,a1,b0,b1,hgo⟩:=him.ins i (qAF hi)
 unfold zGs at h
 dsimp only at h
 rw[hg]at h
 obtain⟨e0,e1,e2⟩:=zY4 (con:=con) (m:=m) (s:=s) a0 b0
 have e3:=zVJ (con:=con) (m:=m) (s:=s) o0 o20
 have e4:i.op=14\/i.op=17->(eff con m i s).takes=0/\(eff con m i s).puts=0:=by
  rintro(h|h) <;> (unfold eff;simp[h])
 generalize eff con m i s=e at *
 split at h
 ·cases h
 rename_i hno
 simp only[qBq,qBv,decide_eq_true_eq,qAV,not_or]at hno
 obtain⟨⟨_,hfl⟩,hbe⟩:=hno
 injection h with h;subst h
 have hT:TrOk { s with height:=s.height-e.takes+e.puts,tries:=if i.op=14 then s.tries.dropLast else if i.op=17 then s.tries++[s.height]else s.tries }:=by
  by_cases c14:i.op=14
  ·obtain⟨h1,h2⟩:=e4 (.inl c14)
   rw[if_pos c14,h1,h2]
   exact⟨hs.pw.sublist (List.dropLast_sublist _),fun x hx=>by have:=hs.le x (qBb _ hx);exact⟨this.1,by show x<=s.height-0+0;omega⟩,by show 0<=s.height-0+0;have:=hs.nn;omega⟩
  rw[if_neg c14]
  by_cases c17:i.op=17
  ·obtain⟨h1,h2⟩:=e4 (.inr c17)
   rw[if_pos c17,h1,h2]
   refine⟨?_,fun x hx=>?_,by show 0<=s.height-0+0;have:=hs.nn;omega⟩
   ·show (s.tries++[s.height]).Pairwise (·<=·)
    rw[List.pairwise_append]
    exact⟨hs.pw,by simp,fun a ha b hb=>by simp at hb;subst hb;exact(hs.le a ha).2⟩
   ·show 0<=x/\x<=s.height-0+0
    rcases qAc.1 (show x∈s.tries++[s.height]from hx)with h|h
    ·have:=hs.le x h;omega
    ·simp at h;subst h;have:=hs.nn;omega
  rw[if_neg c17]
  exact hs.tw (by omega)
 have hH:s.height-e.takes+e.puts<=s.height+1:=by omega
 have hL:(if i.op=14 then s.tries.dropLast else if i.op=17 then s.tries++[s.height]else s.tries).length<=s.tries.length+1:=by
  split
  ·rw[qAy];omega
  ·split
   ·rw[qAE,qAz];omega
   ·omega
 intro p hp
 simp only[qAc]at hp
 rcases hp with((hp|hp)|hp)|hp
 ·split at hp
  ·simp only[qAM]at hp
   subst hp
   refine⟨a0,hgo (by omega),⟨hs.pw,fun x hx=>?_,?_⟩,by dsimp only;omega,by dsimp only;omega⟩
   ·have:=hs.le x hx;dsimp only;omega
   ·have:=hs.nn;dsimp only;omega
  ·cases hp
 ·split at hp
  ·simp only[qAM]at hp
   subst hp
   exact⟨a0,hgo (by omega),⟨List.Pairwise.nil,fun x hx=>(by cases hx),by show (0:Int)<=1;decide⟩,by have:=hs.nn;dsimp only;omega,qAQ _⟩
  ·cases hp
 ·split at hp
  ·rename_i hb
   simp only[qAM]at hp
   subst hp
   refine⟨by dsimp only;omega,?_,hT,hH,hL⟩
   have:¬((k:Int)+1>=m.code.length):=fun c=>hbe ⟨hb,c⟩
   dsimp only;omega
  ·cases hp
 ·split at hp
  ·rename_i hb
   simp only[qAM]at hp
   subst hp
   exact⟨a0,hgo (e3 hb),hT,hH,hL⟩
  ·cases hp
structure SInv(m:Img)(L:List (Option VS)): Prop where
 len:L.length=m.code.length
 bd:∀k v,stA L k=some v->TrOk v/\v.height<=cntS L/\v.tries.length<=cntS L
def ToOk(m:Img)(c:Nat)(p:Int×VS): Prop:=0<=p.1/\p.1<m.code.length/\TrOk p.2/\p.2.height<=c+1/\p.2.tries.length<=c+1
theorem SInv.next(him:ImgOk m){L:List (Option VS)}(h:SInv m L){k:Nat}{v:VS}{l:List (Int×VS)}(hv:stA L k=some v)(hn:zGs con m k v=some l): ∀p∈l,ToOk m (cntS L) p:=by
 obtain⟨h1,h2,h3⟩:=h.bd k v hv
 have hk:k<m.code.length:=by rw[<-h.len];exact(qAA.1 (zMy hv)).1
 intro p hp
 obtain⟨a,b,c,d,e⟩:=zav him hk h1 hn p hp
 exact⟨a,b,c,by omega,by omega⟩
theorem SInv.add{L L':List (Option VS)×Bool}(h:SInv m L.1){c:Nat}{p:Int×VS}(hc:c<=cntS L.1)(hp:ToOk m c p)(ha:addV L p=some L'): SInv m L'.1/\c<=cntS L'.1:=by
 obtain⟨p0,p1,p2,p3,p4⟩:=hp
 have hk:p.1.toNat<L.1.length:=by rw[h.len];omega
 have g:=(zNb hk ha).1
 refine⟨⟨g.len.trans h.len,fun k v hv=>?_⟩,qAu hc g.cnt⟩
 unfold addV at ha
 cases e:stA L.1 p.1.toNat with
 |some x =>
  rw[e]at ha;dsimp only at ha
  split at ha
  ·injection ha with ha;subst ha;exact h.bd k v hv
  ·cases ha
 |none =>
  rw[e]at ha;injection ha with ha;subst ha
  have hn:=zQa hk e
  change stA (L.1.set _ _) k=_ at hv
  show _/\_<=((cntS (L.1.set _ _):Nat):Int)/\_<=cntS (L.1.set _ _)
  rw[zK7 hk]at hv
  rw[zKc hn]
  split at hv
  ·injection hv with hv;subst hv;exact⟨p2,by omega,by omega⟩
  ·obtain⟨h1,h2,h3⟩:=h.bd k v hv
   exact⟨h1,by omega,by omega⟩
theorem SInv.adds: ∀(l:List (Int×VS)) {L L':List (Option VS)×Bool} {c:Nat},SInv m L.1->c<=cntS L.1->(∀p∈l,ToOk m c p)->zJe l L=some L'->SInv m L'.1
 |[],L,L',c,h,_,_,ha=>by injection ha with ha;subst ha;exact h
 |p::r,L,L',c,h,hc,hp,ha=>by
  rw[zJe]at ha
  cases e:addV L p with
  |none=>rw[e]at ha;cases ha
  |some M =>
   rw[e]at ha
   obtain⟨h1,h2⟩:=h.add hc (hp p (by simp)) e
   exact h1.adds r h2 (fun q hq=>hp q (qAi _ hq)) ha
theorem SInv.visit(him:ImgOk m){L L':List (Option VS)×Bool}(h:SInv m L.1){k:Nat}(hv:zIe con m k L=some L'):
  SInv m L'.1/\Grow L L'/\∀v,stA L.1 k=some v->∃l,zGs con m k v=some l/\∀p∈l,0<=p.1/\stA L'.1 p.1.toNat=some p.2:=by
 unfold zIe at hv
 cases e:stA L.1 k with
 |none=>rw[e]at hv;injection hv with hv;subst hv;exact⟨h,.refl _,fun v c=>by cases c⟩
 |some s =>
  rw[e]at hv;dsimp only at hv
  cases hn:zGs con m k s with
  |none=>rw[hn]at hv;cases hv
  |some l =>
   rw[hn]at hv
   have hv:zJe l L=some L':=hv
   have hp:=h.next him e hn
   obtain⟨g1,g2⟩:=zLx l (fun p hp'=>by have:=hp p hp';have h2:=this.2.1;have h3:=this.1;rw[h.len];omega) hv
   refine⟨h.adds l (qAP _) hp hv,g1,fun v hv=>?_⟩
   injection hv with hv;subst hv
   exact⟨l,hn,fun p hq=>⟨(hp p hq).1,g2 p hq⟩⟩
theorem SInv.pass(him:ImgOk m): ∀(n k:Nat) {L L':List (Option VS)×Bool},SInv m L.1->zJu con m n k L=some L'->
  SInv m L'.1/\Grow L L'/\(L'.2=false->∀q,k<=q->q<k+n->∀v,stA L'.1 q=some v->∃l,zGs con m q v=some l/\∀p∈l,0<=p.1/\stA L'.1 p.1.toNat=some p.2)
 |0,k,L,L',h,hp=>by injection hp with hp;subst hp;exact⟨h,.refl _,fun _ q h1 h2=>by omega⟩
 |n+1,k,L,L',h,hp=>by
  rw[zJu]at hp
  cases e:zIe con m k L with
  |none=>rw[e]at hp;cases hp
  |some M =>
   rw[e]at hp
   obtain⟨h1,g1,c1⟩:=h.visit him e
   obtain⟨h2,g2,c2⟩:=h1.pass him n (k+1) (show zJu con m n (k+1) M=some L' from hp)
   refine⟨h2,g1.trans g2,fun hf q hq1 hq2 v hv=>?_⟩
   by_cases hq:q=k
   ·subst hq
    obtain⟨f1,f2⟩:=g2.same hf
    obtain⟨f3,f4⟩:=g1.same f1
    rw[f2,f4]at hv
    obtain⟨l,hl,hl2⟩:=c1 v hv
    exact⟨l,hl,fun p hp=>by rw[f2];exact hl2 p hp⟩
   ·exact c2 hf q (by omega) (by omega) v hv
def st0(m:Img): List (Option VS):=(List.replicate m.code.length none).set 0 (some ⟨-1,0,0,[]⟩)
theorem zTj{m:Img}(h:0<m.code.length)(k:Nat): stA (st0 m) k=if 0=k then some ⟨-1,0,0,[]⟩else none:=by
 unfold st0
 rw[zK7 (by simpa using h)]
 split
 ·rfl
 ·unfold stA;rw[List.getElem?_replicate];split <;> rfl
theorem zPg{m:Img}(h:0<m.code.length): SInv m (st0 m):=by
 refine⟨by simp[st0],fun k v hv=>?_⟩
 rw[zTj h]at hv
 split at hv
 ·injection hv with hv;subst hv
  exact⟨⟨List.Pairwise.nil,fun x hx=>(by cases hx),qBO _⟩,by show (0:Int)<=_;omega,qAQ _⟩
 ·cases hv
theorem zK6(him:ImgOk m): ∀(f:Nat) {L L':List (Option VS)},SInv m L->stA L 0=some ⟨-1,0,0,[]⟩->zER con m f L=some L'->zR3 con m
 |0,L,L',_,_,h=>by cases h
 |f+1,L,L',hi,h0,h=>by
  rw[zER]at h
  cases e:zJu con m m.code.length 0 (L,false)with
  |none=>rw[e]at h;cases h
  |some r =>
   rw[e]at h
   have h:(if r.2 then zER con m f r.1 else some r.1)=some L':=h
   obtain⟨h1,g,hc⟩:=SInv.pass him m.code.length 0 (L:=(L,false)) hi e
   have hz:=g.mono 0 _ h0
   cases hr:r.2 with
   |true=>rw[hr,if_pos rfl]at h;exact zK6 him f h1 hz h
   |false =>
    refine⟨stA r.1,hz,fun k v hv=>?_⟩
    have hk:k<m.code.length:=by rw[<-h1.len];exact(qAA.1 (zMy hv)).1
    exact⟨hk,hc hr k (qAQ _) (by omega) v hv⟩
theorem zVm: ∀(l:List (Int×VS)) {L:List (Option VS)×Bool},(∀k v,stA L.1 k=some v->A k=some v)->(∀p∈l,p.1.toNat<L.1.length/\A p.1.toNat=some p.2)->∃L',zJe l L=some L'/\∀k v,stA L'.1 k=some v->A k=some v
 |[],L,hA,_=>⟨L,rfl,hA⟩
 |p::r,L,hA,hp=>by
  obtain⟨hk,hq⟩:=hp p (by simp)
  rw[zJe]
  have:∃M,addV L p=some M/\M.1.length=L.1.length/\∀k v,stA M.1 k=some v->A k=some v:=by
   unfold addV
   cases e:stA L.1 p.1.toNat with
   |some x =>
    have:=hA _ _ e
    rw[hq]at this;injection this with this
    exact⟨L,by dsimp only;rw[if_pos this.symm],rfl,hA⟩
   |none =>
    refine⟨_,rfl,by simp,fun k v hv=>?_⟩
    change stA (L.1.set _ _) k=_ at hv
    rw[zK7 hk]at hv
    split at hv
    ·rename_i h1;injection hv with hv;subst hv;rw[<-h1];exact hq
    ·exact hA k v hv
  obtain⟨M,e,hl,hM⟩:=this
  rw[e]
  exact zVm r hM (fun q hq=>by rw[hl];exact hp q (qAi _ hq))
theorem zUQ(hg:Good con m A): ∀(n k:Nat) {L:List (Option VS)×Bool},L.1.length=m.code.length->(∀k v,stA L.1 k=some v->A k=some v)->∃L',zJu con m n k L=some L'/\∀k v,stA L'.1 k=some v->A k=some v
 |0,k,L,_,hA=>⟨L,rfl,hA⟩
 |n+1,k,L,hl,hA=>by
  rw[zJu]
  have:∃M,zIe con m k L=some M/\M.1.length=L.1.length/\∀k v,stA M.1 k=some v->A k=some v:=by
   unfold zIe
   cases e:stA L.1 k with
   |none=>exact⟨L,rfl,rfl,hA⟩
   |some s =>
    obtain⟨_,l,hn,hl2⟩:=hg.some_ k s (hA k s e)
    have hr:∀p∈l,p.1.toNat<L.1.length/\A p.1.toNat=some p.2:=fun p hp=>⟨by rw[hl];exact(hg.some_ _ _ (hl2 p hp).2).1,(hl2 p hp).2⟩
    obtain⟨M,h1,h2⟩:=zVm l hA hr
    refine⟨M,?_,(zLx l (fun p hp=>(hr p hp).1) h1).1.len,h2⟩
    dsimp only
    rw[hn];exact h1
  obtain⟨M,e,hl',hM⟩:=this
  rw[e]
  exact zUQ hg n (k+1) (hl'.trans hl) hM
theorem zN1(him:ImgOk m)(hg:Good con m A): ∀(f:Nat) {L:List (Option VS)},SInv m L->(∀k v,stA L k=some v->A k=some v)->m.code.length<f+cntS L->∃L',zER con m f L=some L'
 |0,L,hi,_,hf=>by have:=zNX L;have:=hi.len;omega
 |f+1,L,hi,hA,hf=>by
  rw[zER]
  obtain⟨r,e,hr⟩:=zUQ hg m.code.length 0 (L:=(L,false)) hi.len hA
  obtain⟨h1,g,_⟩:=SInv.pass him m.code.length 0 (L:=(L,false)) hi e
  rw[e]
  show ∃L',(if r.2 then zER con m f r.1 else some r.1)=some L'
  cases h2:r.2 with
  |false=>exact⟨_,rfl⟩
  |true =>
   rw[if_pos rfl]
   have:=g.more rfl h2
   exact zN1 him hg f h1 hr (by dsimp only at this;omega)
def zHv(con:List UInt8->Bool)(m:Img): Option (List (Option VS)):=if m.code.length=0 then none else zER con m (m.code.length+1) (st0 m)
theorem zR7(him:ImgOk m): (zHv con m).isSome=true↔zR3 con m:=by
 unfold zHv
 by_cases h0:m.code.length=0
 ·rw[if_pos h0]
  constructor
  ·intro h;cases h
  ·intro ⟨A,hg⟩
   have:=(hg.some_ 0 _ hg.zero).1;omega
 ·rw[if_neg h0]
  have h0:0<m.code.length:=by omega
  constructor
  ·intro h
   cases e:zER con m (m.code.length+1) (st0 m)with
   |none=>rw[e]at h;cases h
   |some L'=>exact zK6 him _ (zPg h0) (by rw[zTj h0,if_pos rfl]) e
  ·intro ⟨A,hg⟩
   obtain⟨L',e⟩:=zN1 him hg (m.code.length+1) (zPg h0) (fun k v hv=>by
    rw[zTj h0]at hv
    split at hv
    ·rename_i h1;rw[<-h1,<-hv];exact hg.zero
    ·cases hv) (by omega)
   rw[e];rfl
