/- Parts. -/
import Derived.Test.YtjcgiiedaccjpaaGreatDoorMAK
set_option maxHeartbeats 16000000
namespace Go.Ev
mutual
inductive V where
 |num (n:Int)
 |text (t:List UInt8)
 |con (name:List UInt8) (need:Nat) (args:List V)
 |prim (p:Nat) (args:List V)
 |fn (name:List UInt8) (at_:Nat) (self:List UInt8) (env:Env)
 |cell (i:Nat)
inductive Env where
 |nil
 |cons (name:List UInt8) (v:V) (up:Env)
end
instance:Inhabited V:=⟨.num 0⟩
instance:Inhabited Env:=⟨.nil⟩
structure Pn where
 kind:Int
 text:List UInt8
 num:Int
 kids:Nat
structure Pg where
 node:Nat->Pn
 kid:Nat->Nat->Nat
 need:List UInt8->Nat
 name:List UInt8->Nat
 deep:Nat
 fuel:Nat
structure S where
 steps:Nat
 out:List (List UInt8)
 cells:List V
 fin:Int
 raised:Int
def Wn(n:Int): Int:=(n+4611686018427387904)%9223372036854775808-4611686018427387904
def S.stop(s:S)(e:Int): V×S:=(.num 0,{ s with fin:=e })
def S.raise(s:S)(n:Int): V×S:=(.num 0,{ s with raised:=n,fin:=2 })
def S.put(s:S)(t:List UInt8): S:={ s with out:=s.out++[t] }
def bit(p:Prop)[Decidable p]: V:=.num (if p then 1 else 0)
def pneed(p:Nat): Nat:=if p=8\/p=9\/p=10\/p=12\/p=13 then 1 else if p<14 then 2 else 0
def S.ints(s:S)(p:Nat)(a b:Int): V×S :=
 if p=0 then(.num (Wn (a+b)),s)else if p=1 then(.num (Wn (a-b)),s)else if p=2 then(.num (Wn (a*b)),s)
 else if p=3 then(if Wn b=0 then s.raise (-2)else(.num (Wn ((Wn a).tdiv (Wn b))),s))
 else if p=4 then(if Wn b=0 then s.raise (-2)else(.num ((Wn a).tmod (Wn b)),s))
 else if p=5 then(bit (a=b),s)
 else(bit (a<b),s)
def S.doP(shw:Int->List UInt8)(s:S)(p:Nat)(l:List V): V×S :=
 let a:=l.getD 0 default
 let b:=l.getD 1 default
 if p<7 then(match a,b with
  | .num x,.num y=>s.ints p x y
  |_,_=>s.stop 4)
 else if p=7 then(match a,b with
  | .text x,.text y=>if x.length+y.length>200 then s.raise (-3)else(.text (x++y),s)
  |_,_=>s.stop 4)
 else if p=8 then(match a with
  | .text x=>(.num x.length,s)
  |_=>s.stop 4)
 else if p=9 then(.cell s.cells.length,{ s with cells:=s.cells++[a] })
 else if p=10 then(match a with
  | .cell i=>(s.cells.getD i default,s)
  |_=>s.stop 4)
 else if p=11 then(match a with
  | .cell i=>(.num 0,{ s with cells:=s.cells.set i b })
  |_=>s.stop 4)
 else if p=12 then(match a with
  | .num x=>(.num x,s.put (shw x))
  |_=>s.stop 4)
 else(match a with
  | .text x=>(.num 0,s.put x)
  |_=>s.stop 4)
def told(P:Pg)(s:List UInt8): Env->V
 | .nil=>.prim (P.name s) []
 | .cons n v up=>if n=s then v else told P s up
def S.apply(shw:Int->List UInt8)(ex:S->Nat->Env->V×S)(s:S)(f a:V): V×S :=
 if s.fin≠0 then(a,s)else match f with
 | .fn n k self env=>ex s k (.cons n a (if self=[]then env else .cons self f env))
 | .prim p args=>if args.length+1=pneed p then s.doP shw p (args++[a])else(.prim p (args++[a]),s)
 | .con n need args=>if args.length<need then(.con n need (args++[a]),s)else s.stop 4
 |_=>s.stop 4
def matK(P:Pg)(mt:Nat->V->Env->Option Env)(at_:Nat): Nat->List V->Env->Option Env
 |_,[],e=>some e
 |j,v::r,e=>match mt (P.kid at_ j) v e with
  |none=>none
  |some e=>matK P mt at_ (j+1) r e
def mat(P:Pg): Nat->Nat->V->Env->Option Env
 |0,_,_,_=>none
 |f+1,k,v,e =>
  let n:=P.node k
  if n.kind=21 then some e
  else if n.kind=22 then some (.cons n.text v e)
  else if n.kind=23 then(match v with
   | .num x=>if x=n.num then some e else none
   |_=>none)
  else match v with
   | .con m need args=>if m=n.text/\args.length=need/\need=n.kids then matK P (mat P f) k 0 args e else none
   |_=>none
def S.arms(ex:S->Nat->Env->V×S)(mt:Nat->V->Env->Option Env)(P:Pg)(s:S)(at_:Nat)(v:V)(e:Env): Nat->Nat->V×S
 |0,_=>s.raise (-1)
 |c+1,i=>match mt (P.kid at_ i) v e with
  |some e=>ex s (P.kid at_ (i+1)) e
  |none=>arms ex mt P s at_ v e c (i+2)
def exp(shw:Int->List UInt8)(P:Pg): Nat->S->Nat->Env->V×S
 |0,s,_,_=>s.stop 3
 |f+1,s,k,env =>
  if s.fin≠0 then(.num 0,s)
  else if s.steps=P.fuel then s.stop 3
  else
   let s:={ s with steps:=s.steps+1 }
   let n:=P.node k
   let ex:=exp shw P f
   if n.kind=1 then(.num n.num,s)
   else if n.kind=2 then(.text n.text,s)
   else if n.kind=3 then(told P n.text env,s)
   else if n.kind=4 then(.con n.text (P.need n.text) [],s)
   else if n.kind=5 then(.fn n.text (P.kid k 0) [] env,s)
   else if n.kind=6 then
    let r:=ex s (P.kid k 0) env
    let q:=ex r.2 (P.kid k 1) env
    q.2.apply shw ex r.1 q.1
   else if n.kind=7 then
    let r:=ex s (P.kid k 0) env
    ex r.2 (P.kid k 1) (.cons n.text r.1 env)
   else if n.kind=8 then
    if s.steps=P.fuel then s.stop 3
    else ex { s with steps:=s.steps+1 } (P.kid k 1) (.cons n.text (.fn (P.node (P.kid k 0)).text (P.kid k 0+1) n.text env) env)
   else if n.kind=9 then
    let r:=ex s (P.kid k 0) env
    if r.2.fin≠0 then(.num 0,r.2)else match r.1 with
     | .num x=>if x=0 then ex r.2 (P.kid k 2) env else ex r.2 (P.kid k 1) env
     |_=>r.2.stop 4
   else if n.kind=11 then
    let r:=ex s (P.kid k 0) env
    if r.2.fin≠0 then(.num 0,r.2)else match r.1 with
     | .num x=>r.2.raise x
     |_=>r.2.stop 4
   else if n.kind=12 then
    let r:=ex s (P.kid k 0) env
    if r.2.fin≠2 then r else ex { r.2 with fin:=0 } (P.kid k 1) (.cons n.text (.num r.2.raised) env)
   else
    let r:=ex s (P.kid k 0) env
    if r.2.fin≠0 then r else r.2.arms ex (mat P P.deep) P k r.1 env ((n.kids-1) / 2) 1
structure Nn where
 kind:Int
 text:List UInt8
 num:Int
 kids:Int
 deriving Inhabited,DecidableEq
def node(l:List Nn)(n:Nn): List Nn:=if 4000<l.length then l else l++[n]
mutual
def sh(l:List Nn): V->List Nn
 | .num n=>node l ⟨51,[],n,0⟩
 | .text t=>node l ⟨52,t,0,0⟩
 | .con n need args=>if args.length<need then node l ⟨54,[],0,0⟩else shs (node l ⟨53,n,0,need⟩) args
 | .prim _ _=>node l ⟨54,[],0,0⟩
 | .fn _ _ _ _=>node l ⟨54,[],0,0⟩
 | .cell _=>node l ⟨54,[],0,0⟩
def shs(l:List Nn): List V->List Nn
 |[]=>l
 |v::r=>shs (if 4000<l.length then l else sh l v) r
end
def start: S:=⟨0,[],[],0,0⟩
structure Sn where
 fin:Int
 vals:List Nn
 num:Int
 out:List (List UInt8)
 steps:Int
def seen(shw:Int->List UInt8)(P:Pg): Sn :=
 let r:=exp shw P (P.fuel+1) start 0 .nil
 if r.2.fin=0 then⟨1,if(sh [] r.1).length<=4000 then sh [] r.1 else[],0,r.2.out,r.2.steps⟩
 else⟨r.2.fin,[],if r.2.fin=2 then r.2.raised else 0,r.2.out,r.2.steps⟩
variable {shw:Int->List UInt8}
structure Fo(s t:S): Prop where
 le:s.steps<=t.steps
 out:s.out <+: t.out
theorem Fo.rfl'(s:S): Fo s s:=⟨qAM _,qAe⟩
theorem Fo.trans{s t u:S}(h:Fo s t)(k:Fo t u): Fo s u:=⟨qAi h.le k.le,h.out.trans k.out⟩
theorem Fo.of{s t:S}(h1:t.steps=s.steps)(h2:t.out=s.out): Fo s t:=⟨by omega,by rw[h2];exact qAe⟩
theorem zTQ(s:S)(p:Nat)(a b:Int): Fo s (s.ints p a b).2:=by
 unfold S.ints
 repeat' split
 all_goals exact .of rfl rfl
theorem zVA(s:S)(p:Nat)(l:List V): Fo s (s.doP shw p l).2:=by
 unfold S.doP;dsimp only
 repeat' split
 all_goals first|exact zTQ s p _ _|exact .of rfl rfl|exact⟨qAM _,List.prefix_append _ _⟩
theorem zJe{ex:S->Nat->Env->V×S}(h:∀s k e,Fo s (ex s k e).2)(s:S)(f a:V): Fo s (s.apply shw ex f a).2:=by
 unfold S.apply
 split
 ·exact .rfl' s
 ·split
  ·exact h _ _ _
  ·split
   ·exact zVA s _ _
   ·exact .rfl' s
  ·split
   ·exact .rfl' s
   ·exact .of rfl rfl
  ·exact .of rfl rfl
theorem zLo{ex:S->Nat->Env->V×S}(h:∀s k e,Fo s (ex s k e).2)(mt:Nat->V->Env->Option Env)(P:Pg)(s:S)(k:Nat)(v:V)(e:Env): ∀c i,Fo s (s.arms ex mt P k v e c i).2
 |0,_=>.of rfl rfl
 |c+1,i=>by
  unfold S.arms
  split
  ·exact h _ _ _
  ·exact zLo h mt P s k v e c (i+2)
theorem zEV{s:S}{p:Prop}[Decidable p]{a b:V×S}(ha:Fo s a.2)(hb:Fo s b.2): Fo s (if p then a else b).2:=by split <;> assumption
theorem zIe(P:Pg): ∀f s k e,Fo s (exp shw P f s k e).2
 |0,s,k,e=>.of rfl rfl
 |f+1,s,k,e=>by
  have ih:=zIe P f
  have tick:∀{t:S},Fo { s with steps:=s.steps+1 } t->Fo s t:=fun h=>⟨by have:=h.le;simp at this;omega,h.out⟩
  have tick2:∀{t:S},Fo { s with steps:=s.steps+1+1 } t->Fo s t:=fun h=>⟨by have:=h.le;simp at this;omega,h.out⟩
  unfold exp
  refine zEV (.rfl' s) (zEV (.of rfl rfl) ?_)
  dsimp only
  refine zEV ?_ (zEV ?_ (zEV ?_ (zEV ?_ (zEV ?_ (zEV ?_ (zEV ?_ (zEV ?_ (zEV ?_ (zEV ?_ (zEV ?_ ?_))))))))))
  ·exact tick (.rfl' _)
  ·exact tick (.rfl' _)
  ·exact tick (.rfl' _)
  ·exact tick (.rfl' _)
  ·exact tick (.rfl' _)
  ·exact tick ((ih _ _ _).trans ((ih _ _ _).trans (zJe ih _ _ _)))
  ·exact tick ((ih _ _ _).trans (ih _ _ _))
  ·split
   ·exact tick (.of rfl rfl)
   ·exact tick2 (ih _ _ _)
  ·refine tick ((ih _ (P.kid k 0) e).trans ?_)
   split
   ·exact .rfl' _
   ·split
    ·split <;> exact ih _ _ _
    ·exact .of rfl rfl
  ·refine tick ((ih _ (P.kid k 0) e).trans ?_)
   split
   ·exact .rfl' _
   ·split <;> exact .of rfl rfl
  ·refine tick ((ih _ (P.kid k 0) e).trans ?_)
   split
   ·exact .rfl' _
   ·refine Fo.trans ?_ (ih _ _ _)
    exact .of rfl rfl
  ·refine tick ((ih _ (P.kid k 0) e).trans ?_)
   split
   ·exact .rfl' _
   ·exact zLo ih _ _ _ _ _ _ _ _
end Go.Ev
namespace Go.Ev
variable {shw:Int->List UInt8}
theorem zTO(s:S)(p:Nat)(a b:Int): (s.ints p a b).2.steps=s.steps:=by
 unfold S.ints
 repeat' split
 all_goals rfl
theorem zU8(s:S)(p:Nat)(l:List V): (s.doP shw p l).2.steps=s.steps:=by
 unfold S.doP;dsimp only
 repeat' split
 all_goals first|exact zTO s p _ _|rfl
theorem zR9{P:Pg}{ex:S->Nat->Env->V×S}(h:∀s k e,s.steps<=P.fuel->(ex s k e).2.steps<=P.fuel)(s:S)(f a:V)(hs:s.steps<=P.fuel): (s.apply shw ex f a).2.steps<=P.fuel:=by
 unfold S.apply
 split
 ·exact hs
 ·split
  ·exact h _ _ _ hs
  ·split
   ·rw[zU8];exact hs
   ·exact hs
  ·split <;> exact hs
  ·exact hs
theorem zQM{P Q:Pg}{ex:S->Nat->Env->V×S}(h:∀s k e,s.steps<=P.fuel->(ex s k e).2.steps<=P.fuel)(mt:Nat->V->Env->Option Env)(s:S)(k:Nat)(v:V)(e:Env)(hs:s.steps<=P.fuel): ∀c i,(s.arms ex mt Q k v e c i).2.steps<=P.fuel
 |0,_=>hs
 |c+1,i=>by
  unfold S.arms
  split
  ·exact h _ _ _ hs
  ·exact zQM h mt s k v e hs c (i+2)
theorem zEU{n:Nat}{p:Prop}[Decidable p]{a b:V×S}(ha:p->a.2.steps<=n)(hb:¬p->b.2.steps<=n): (if p then a else b).2.steps<=n:=by split <;> rename_i h;exact ha h;exact hb h
theorem zId(P:Pg): ∀f s k e,s.steps<=P.fuel->(exp shw P f s k e).2.steps<=P.fuel
 |0,s,k,e,hs=>hs
 |f+1,s,k,e,hs=>by
  have ih:=zId P f
  unfold exp
  refine zEU (fun _=>hs) fun _=>zEU (fun _=>hs) fun hn=>?_
  have h1:s.steps+1<=P.fuel:=by omega
  dsimp only
  refine zEU (fun _=>h1) fun _=>zEU (fun _=>h1) fun _=>zEU (fun _=>h1) fun _=>zEU (fun _=>h1) fun _=>zEU (fun _=>h1) fun _=>zEU (fun _=>?_) fun _=>zEU (fun _=>?_) fun _=>zEU (fun _=>?_) fun _=>zEU (fun _=>?_) fun _=>zEU (fun _=>?_) fun _=>zEU (fun _=>?_) fun _=>?_
  ·exact zR9 ih _ _ _ (ih _ _ _ (ih _ _ _ h1))
  ·exact ih _ _ _ (ih _ _ _ h1)
  ·split
   ·exact h1
   ·exact ih _ _ _ (by show s.steps+1+1<=_;omega)
  ·have h2:=ih { s with steps:=s.steps+1 } (P.kid k 0) e h1
   split
   ·exact h2
   ·split
    ·split <;> exact ih _ _ _ h2
    ·exact h2
  ·have h2:=ih { s with steps:=s.steps+1 } (P.kid k 0) e h1
   split
   ·exact h2
   ·split <;> exact h2
  ·have h2:=ih { s with steps:=s.steps+1 } (P.kid k 0) e h1
   split
   ·exact h2
   ·exact ih _ _ _ h2
  ·have h2:=ih { s with steps:=s.steps+1 } (P.kid k 0) e h1
   split
   ·exact h2
   ·exact zQM ih _ _ _ _ _ h2 _ _
theorem zLb(P:Pg){f:Nat}{s:S}(hf:f≠0)(h:s.fin≠0)(k:Nat)(e:Env): exp shw P f s k e=(.num 0,s):=by
 cases f with
 |zero=>exact absurd rfl hf
 |succ f=>unfold exp;rw[if_pos h]
theorem zLp{ex ex':S->Nat->Env->V×S}{s:S}(h:∀k e,ex s k e=ex' s k e)(f a:V): s.apply shw ex f a=s.apply shw ex' f a:=by
 unfold S.apply
 split
 ·rfl
 ·split
  ·exact h _ _
  ·rfl
  ·rfl
  ·rfl
theorem zIr{ex ex':S->Nat->Env->V×S}{s:S}(h:∀k e,ex s k e=ex' s k e)(mt:Nat->V->Env->Option Env)(P:Pg)(k:Nat)(v:V)(e:Env): ∀c i,s.arms ex mt P k v e c i=s.arms ex' mt P k v e c i
 |0,_=>rfl
 |c+1,i=>by
  unfold S.arms
  split
  ·exact h _ _
  ·exact zIr h mt P k v e c (i+2)
theorem zKU(P:Pg): ∀f s k e,s.steps<=P.fuel->P.fuel<f+s.steps->exp shw P f s k e=exp shw P (f+1) s k e
 |0,s,k,e,hs,hf=>absurd hf (by omega)
 |f+1,s,k,e,hs,hf=>by
  have ih:∀t k e,t.steps<=P.fuel->s.steps<t.steps->exp shw P f t k e=exp shw P (f+1) t k e:=fun t k e h1 h2=>zKU P f t k e h1 (by omega)
  conv=>lhs;unfold exp
  conv=>rhs;unfold exp
  by_cases c0:s.fin≠0
  ·rw[if_pos c0,if_pos c0]
  rw[if_neg c0,if_neg c0]
  by_cases c1:s.steps=P.fuel
  ·rw[if_pos c1,if_pos c1]
  rw[if_neg c1,if_neg c1]
  have h1:s.steps+1<=P.fuel:=by omega
  dsimp only
  have e1:∀k e,exp shw P f { s with steps:=s.steps+1 } k e=exp shw P (f+1) { s with steps:=s.steps+1 } k e:=fun k e=>ih _ k e h1 (by show s.steps<s.steps+1;omega)
  simp only[e1]
  have hle:∀k e,(exp shw P (f+1) { s with steps:=s.steps+1 } k e).2.steps<=P.fuel:=fun k e=>zId P (f+1) _ k e h1
  have hge:∀k e,s.steps<(exp shw P (f+1) { s with steps:=s.steps+1 } k e).2.steps:=fun k e=>by have:=(zIe (shw:=shw) P (f+1) { s with steps:=s.steps+1 } k e).le;exact this
  have e2:∀k' e' k e,exp shw P f (exp shw P (f+1) { s with steps:=s.steps+1 } k' e').2 k e=exp shw P (f+1) (exp shw P (f+1) { s with steps:=s.steps+1 } k' e').2 k e:=fun k' e' k e=>ih _ k e (hle k' e') (hge k' e')
  simp only[e2]
  have e3:∀k' e',∀k e,exp shw P f { (exp shw P (f+1) { s with steps:=s.steps+1 } k' e').2 with fin:=0 } k e=exp shw P (f+1) { (exp shw P (f+1) { s with steps:=s.steps+1 } k' e').2 with fin:=0 } k e:=fun k' e' k e=>ih _ k e (hle k' e') (hge k' e')
  simp only[e3]
  have e4:¬s.steps+1=P.fuel->∀k e,exp shw P f { s with steps:=s.steps+1+1 } k e=exp shw P (f+1) { s with steps:=s.steps+1+1 } k e:=fun h k e=>ih _ k e (by show s.steps+1+1<=_;omega) (by show s.steps<s.steps+1+1;omega)
  refine if_congr' rfl (if_congr' rfl (if_congr' rfl (if_congr' rfl (if_congr' rfl (if_congr' ?_ (if_congr' rfl (if_congr' ?_ (if_congr' rfl (if_congr' rfl (if_congr' rfl ?_))))))))))
  ·refine zLp (fun k' e'=>ih _ k' e' ?_ ?_) _ _
   ·exact zId P (f+1) _ _ _ (hle _ _)
   ·have h2:=hge (P.kid k 0) e
    have h3:=(zIe (shw:=shw) P (f+1) (exp shw P (f+1) { s with steps:=s.steps+1 } (P.kid k 0) e).2 (P.kid k 1) e).le
    omega
  ·by_cases c:s.steps+1=P.fuel
   ·rw[if_pos c,if_pos c]
   ·rw[if_neg c,if_neg c,e4 c]
  ·refine if_congr' rfl ?_
   exact zIr (fun k e=>e2 _ _ k e) _ _ _ _ _ _ _
where
 if_congr' {p:Prop} [Decidable p] {α:Type} {a b c d:α} (h1:a=c) (h2:b=d):(if p then a else b)=(if p then c else d):=by rw[h1,h2]
theorem zRj(P:Pg)(j f:Nat)(s:S)(k:Nat)(e:Env)(hs:s.steps<=P.fuel)(hf:P.fuel<f+s.steps): exp shw P f s k e=exp shw P (f+j) s k e:=by
 induction j with
 |zero=>rfl
 |succ j ih=>rw[ih,zKU P (f+j) s k e hs (by omega)];rfl
end Go.Ev
namespace Go.Ev
variable {shw:Int->List UInt8}
mutual
def V.wf(n:Nat): V->Prop
 | .num _=>True
 | .text _=>True
 | .con _ _ args=>wfs n args
 | .prim _ args=>wfs n args
 | .fn _ _ _ env=>env.wf n
 | .cell i=>i<n
def wfs(n:Nat): List V->Prop
 |[]=>True
 |v::r=>v.wf n/\wfs n r
def Env.wf(n:Nat): Env->Prop
 | .nil=>True
 | .cons _ v up=>v.wf n/\up.wf n
end
mutual
theorem V.wf_mono{n m:Nat}(h:n<=m): ∀(v:V),v.wf n->v.wf m
 | .num _,_=>trivial
 | .text _,_=>trivial
 | .con _ _ args,hv=>zG5 h args hv
 | .prim _ args,hv=>zG5 h args hv
 | .fn _ _ _ env,hv=>Env.wf_mono h env hv
 | .cell _,hv=>qAV hv h
theorem zG5{n m:Nat}(h:n<=m): ∀(l:List V),wfs n l->wfs m l
 |[],_=>trivial
 |v::r,hv=>⟨V.wf_mono h v hv.1,zG5 h r hv.2⟩
theorem Env.wf_mono{n m:Nat}(h:n<=m): ∀(e:Env),e.wf n->e.wf m
 | .nil,_=>trivial
 | .cons _ v up,hv=>⟨V.wf_mono h v hv.1,Env.wf_mono h up hv.2⟩
end
theorem zGQ{n:Nat}: ∀{l m:List V},wfs n l->wfs n m->wfs n (l++m)
 |[],_,_,h=>h
 |_::_,_,h,k=>⟨h.1,zGQ h.2 k⟩
theorem zG6{n:Nat}: ∀{l:List V} (i:Nat),wfs n l->(l.getD i default).wf n
 |[],i,_=>by rw[List.getD_nil];exact trivial
 |v::r,0,h=>h.1
 |v::r,i+1,h=>by rw[List.getD_cons_succ];exact zG6 i h.2
theorem zOE{n:Nat}{v:V}(hv:v.wf n): ∀{l:List V} (i:Nat),wfs n l->wfs n (l.set i v)
 |[],_,_=>trivial
 |_::_,0,h=>⟨hv,h.2⟩
 |_::_,i+1,h=>⟨h.1,zOE hv i h.2⟩
def S.wf(s:S): Prop:=wfs s.cells.length s.cells
structure Wf(n:Nat)(r:V×S): Prop where
 st:r.2.wf
 val:r.1.wf r.2.cells.length
 le:n<=r.2.cells.length
theorem Wf.trans{n:Nat}{r q:V×S}(h:Wf n r)(k:Wf r.2.cells.length q): Wf n q:=⟨k.st,k.val,qAi h.le k.le⟩
theorem zTN{s:S}(h:s.wf)(p:Nat)(a b:Int): Wf s.cells.length (s.ints p a b):=by
 unfold S.ints
 repeat' split
 all_goals exact⟨h,trivial,qAM _⟩
theorem zU7{s:S}(h:s.wf)(p:Nat){l:List V}(hl:wfs s.cells.length l): Wf s.cells.length (s.doP shw p l):=by
 have h0:=zG6 0 hl
 have h1:=zG6 1 hl
 unfold S.doP;dsimp only
 generalize l.getD 0 default=a at *
 generalize l.getD 1 default=b at *
 refine ite_wf ?_ (ite_wf ?_ (ite_wf ?_ (ite_wf ?_ (ite_wf ?_ (ite_wf ?_ (ite_wf ?_ ?_))))))
 ·split
  ·exact zTN h p _ _
  ·exact⟨h,trivial,qAM _⟩
 ·split
  ·split <;> exact⟨h,trivial,qAM _⟩
  ·exact⟨h,trivial,qAM _⟩
 ·split <;> exact⟨h,trivial,qAM _⟩
 ·have e:(s.cells++[a]).length=s.cells.length+1:=by simp
  refine⟨?_,?_,?_⟩
  ·show wfs (s.cells++[a]).length (s.cells++[a])
   rw[e]
   exact zGQ (zG5 (qBb _) _ h) ⟨V.wf_mono (qBb _) _ h0,trivial⟩
  ·show s.cells.length<(s.cells++[a]).length;omega
  ·show s.cells.length<=(s.cells++[a]).length;omega
 ·split
  ·exact⟨h,zG6 _ h,qAM _⟩
  ·exact⟨h,trivial,qAM _⟩
 ·split
  ·rename_i i
   have e:(s.cells.set i b).length=s.cells.length:=qAo
   refine⟨?_,trivial,?_⟩
   ·show wfs (s.cells.set i b).length (s.cells.set i b)
    rw[e];exact zOE h1 i h
   ·show s.cells.length<=(s.cells.set i b).length;omega
  ·exact⟨h,trivial,qAM _⟩
 ·split <;> exact⟨h,trivial,qAM _⟩
 ·split <;> exact⟨h,trivial,qAM _⟩
where
 ite_wf {n:Nat} {c:Prop} [Decidable c] {a b:V×S} (ha:Wf n a) (hb:Wf n b):Wf n (if c then a else b):=by split <;> assumption
theorem zOQ{P:Pg}{n:Nat}(x:List UInt8): ∀{e:Env},e.wf n->(told P x e).wf n
 | .nil,_=>trivial
 | .cons m v up,h=>by
  unfold told
  split
  ·exact h.1
  ·exact zOQ x h.2
theorem zR8{ex:S->Nat->Env->V×S}{s:S}(hx:∀k e,e.wf s.cells.length->Wf s.cells.length (ex s k e))(hs:s.wf){f a:V}(hf:f.wf s.cells.length)(ha:a.wf s.cells.length): Wf s.cells.length (s.apply shw ex f a):=by
 unfold S.apply
 split
 ·exact⟨hs,ha,qAM _⟩
 ·split
  ·rename_i n k self env
   refine hx _ _ ⟨ha,?_⟩
   split
   ·exact hf
   ·exact⟨hf,hf⟩
  ·split
   ·exact zU7 hs _ (zGQ hf ⟨ha,trivial⟩)
   ·exact⟨hs,zGQ hf ⟨ha,trivial⟩,qAM _⟩
  ·split
   ·exact⟨hs,zGQ hf ⟨ha,trivial⟩,qAM _⟩
   ·exact⟨hs,trivial,qAM _⟩
  ·exact⟨hs,trivial,qAM _⟩
theorem zO5{P:Pg}{n:Nat}{mt:Nat->V->Env->Option Env}(hm:∀k v e e',v.wf n->e.wf n->mt k v e=some e'->e'.wf n)(k:Nat): ∀(l:List V) (j:Nat) (e e':Env),wfs n l->e.wf n->matK P mt k j l e=some e'->e'.wf n
 |[],_,e,e',_,he,h=>by unfold matK at h;injection h with h;subst h;exact he
 |v::r,j,e,e',hl,he,h=>by
  unfold matK at h
  split at h
  ·cases h
  ·rename_i e1 h1
   exact zO5 hm k r (j+1) e1 e' hl.2 (hm _ _ _ _ hl.1 he h1) h
theorem zO4(P:Pg){n:Nat}: ∀f k v e e',v.wf n->e.wf n->mat P f k v e=some e'->e'.wf n
 |0,k,v,e,e',_,_,h=>by cases h
 |f+1,k,v,e,e',hv,he,h=>by
  unfold mat at h
  dsimp only at h
  split at h
  ·injection h with h;subst h;exact he
  split at h
  ·injection h with h;subst h;exact⟨hv,he⟩
  split at h
  ·split at h
   ·split at h
    ·injection h with h;subst h;exact he
    ·cases h
   ·cases h
  ·split at h
   ·split at h
    ·exact zO5 (zO4 P f) k _ 0 e e' hv he h
    ·cases h
   ·cases h
theorem zQL{ex:S->Nat->Env->V×S}{s:S}(hx:∀k e,e.wf s.cells.length->Wf s.cells.length (ex s k e))(hs:s.wf){P:Pg}{mt:Nat->V->Env->Option Env}(hm:∀k v e e',v.wf s.cells.length->e.wf s.cells.length->mt k v e=some e'->e'.wf s.cells.length)(k:Nat){v:V}{e:Env}(hv:v.wf s.cells.length)(he:e.wf s.cells.length): ∀c i,Wf s.cells.length (s.arms ex mt P k v e c i)
 |0,_=>⟨hs,trivial,qAM _⟩
 |c+1,i=>by
  unfold S.arms
  split
  ·rename_i e' h';exact hx _ _ (hm _ _ _ _ hv he h')
  ·exact zQL hx hs hm k hv he c (i+2)
theorem zSe(P:Pg): ∀f s k e,s.wf->e.wf s.cells.length->Wf s.cells.length (exp shw P f s k e)
 |0,s,k,e,hs,he=>⟨hs,trivial,qAM _⟩
 |f+1,s,k,e,hs,he=>by
  have ih:∀t k e,t.wf->e.wf t.cells.length->Wf t.cells.length (exp shw P f t k e):=zSe P f
  have ih1:∀k e,e.wf s.cells.length->Wf s.cells.length (exp shw P f { s with steps:=s.steps+1 } k e):=fun k e h=>ih { s with steps:=s.steps+1 } k e hs h
  have ihr:∀{r:V×S},Wf s.cells.length r->∀k e,e.wf r.2.cells.length->Wf s.cells.length (exp shw P f r.2 k e):=fun {r} h k e h'=>h.trans (ih _ k e h.st h')
  have tr:∀{v:V} {t:S},t.cells=s.cells->v.wf s.cells.length->Wf s.cells.length (v,t):=fun {v t} ht hv=>⟨by show wfs t.cells.length t.cells;rw[ht];exact hs,by show v.wf t.cells.length;rw[ht];exact hv,by show _<=t.cells.length;rw[ht];exact qAM _⟩
  have st:∀{r:V×S},Wf s.cells.length r->∀{v:V} {t:S},t.cells=r.2.cells->v.wf r.2.cells.length->Wf s.cells.length (v,t):=fun {r} h {v t} ht hv=>⟨by show wfs t.cells.length t.cells;rw[ht];exact h.st,by show v.wf t.cells.length;rw[ht];exact hv,by show _<=t.cells.length;rw[ht];exact h.le⟩
  unfold exp
  refine ite_wf (tr rfl trivial) (ite_wf (tr rfl trivial) ?_)
  dsimp only
  refine ite_wf ?_ (ite_wf ?_ (ite_wf ?_ (ite_wf ?_ (ite_wf ?_ (ite_wf ?_ (ite_wf ?_ (ite_wf ?_ (ite_wf ?_ (ite_wf ?_ (ite_wf ?_ ?_))))))))))
  ·exact tr rfl trivial
  ·exact tr rfl trivial
  ·exact tr rfl (zOQ _ he)
  ·exact tr rfl trivial
  ·exact tr rfl he
  ·have h1:=ih1 (P.kid k 0) e he
   generalize exp shw P f { s with steps:=s.steps+1 } (P.kid k 0) e=r at *
   have h2:=ihr h1 (P.kid k 1) e (Env.wf_mono h1.le _ he)
   have h3:=ih r.2 (P.kid k 1) e h1.st (Env.wf_mono h1.le _ he)
   generalize exp shw P f r.2 (P.kid k 1) e=q at *
   exact h2.trans (zR8 (fun k e h=>ih _ k e h2.st h) h2.st (V.wf_mono h3.le _ h1.val) h2.val)
  ·have h1:=ih1 (P.kid k 0) e he
   exact ihr h1 _ _ ⟨h1.val,Env.wf_mono h1.le _ he⟩
  ·refine ite_wf (tr rfl trivial) ?_
   exact ih { s with steps:=s.steps+1+1 } _ _ hs ⟨he,he⟩
  ·have h1:=ih1 (P.kid k 0) e he
   generalize exp shw P f { s with steps:=s.steps+1 } (P.kid k 0) e=r at *
   refine ite_wf (st h1 rfl trivial) ?_
   split
   ·refine ite_wf (ihr h1 _ _ (Env.wf_mono h1.le _ he)) (ihr h1 _ _ (Env.wf_mono h1.le _ he))
   ·exact st h1 rfl trivial
  ·have h1:=ih1 (P.kid k 0) e he
   generalize exp shw P f { s with steps:=s.steps+1 } (P.kid k 0) e=r at *
   refine ite_wf (st h1 rfl trivial) ?_
   split
   ·exact st h1 rfl trivial
   ·exact st h1 rfl trivial
  ·have h1:=ih1 (P.kid k 0) e he
   generalize exp shw P f { s with steps:=s.steps+1 } (P.kid k 0) e=r at *
   refine ite_wf h1 ?_
   exact h1.trans (ih { r.2 with fin:=0 } _ _ h1.st ⟨trivial,Env.wf_mono h1.le _ he⟩)
  ·have h1:=ih1 (P.kid k 0) e he
   generalize exp shw P f { s with steps:=s.steps+1 } (P.kid k 0) e=r at *
   refine ite_wf h1 ?_
   exact h1.trans (zQL (fun k e h=>ih _ k e h1.st h) h1.st (zO4 P P.deep) _ h1.val (Env.wf_mono h1.le _ he) _ _)
where
 ite_wf {n:Nat} {c:Prop} [Decidable c] {a b:V×S} (ha:Wf n a) (hb:Wf n b):Wf n (if c then a else b):=by split <;> assumption
end Go.Ev
namespace Go.Proofs.YtjcgiiedaccjpaaGreatDoor
open Go.Sx Go.Ev
def addT: List UInt8:=[97,100,100]
def subT: List UInt8:=[115,117,98]
def mulT: List UInt8:=[109,117,108]
def divT: List UInt8:=[100,105,118]
def modT: List UInt8:=[109,111,100]
def eqT: List UInt8:=[101,113]
def ltT: List UInt8:=[108,116]
def catT: List UInt8:=[99,97,116]
def lenT: List UInt8:=[108,101,110]
def getT: List UInt8:=[103,101,116]
def setT: List UInt8:=[115,101,116]
def putT: List UInt8:=[112,117,116]
def sayT: List UInt8:=[115,97,121]
def pnames: List (List UInt8):=[addT,subT,mulT,divT,modT,eqT,ltT,catT,lenT,refT,getT,setT,putT,sayT]
def zJB(f:FuncId): D:=.clo 147 [.ref [.clo f []]]
def pdo(p:Nat): D :=
 if p=0 then zJB 87 else if p=1 then zJB 89 else if p=2 then zJB 91
 else if p=3 then zJB 93 else if p=4 then zJB 96 else if p=5 then zJB 98
 else if p=6 then zJB 100 else if p=7 then .clo 101 []else if p=8 then .clo 102 []
 else if p=9 then .clo 103 []else if p=10 then .clo 104 []else if p=11 then .clo 105 []
 else if p=12 then .clo 106 []else if p=13 then .clo 108 []else .val .nilFunc
def zES(p:Nat): List UInt8:=pnames.getD p []
abbrev biC(p:Nat): List D:=[str (zES p),i64 (pneed p),pdo p]
def biD(p:Nat): D:=.agg (biC p)
def bis(L:List Nat): D:=.slice (L.map biD)
def pidx(s:List UInt8): Nat:=match (List.range 14).findIdx? fun p=>decide (zES p=s)with
 |some i=>i
 |none=>14
mutual
def encV(bs:List Nat): V->D
 | .num n=>.ifc 101 (.agg [i64 n])
 | .text t=>.ifc 106 (.agg [str t])
 | .con n need args=>.ifc 108 (.ref [str n,.slice (zCJ bs args),i64 need])
 | .prim p args=>.ifc 165 (.ref [str (zES p),i64 (pneed p),pdo p,.slice (zCJ bs args)])
 | .fn n k self env=>.ifc 112 (.ref [str n,i64 k,encE bs env,str self])
 | .cell i=>.ifc 155 (pv (bs.getD i 0))
def zCJ(bs:List Nat): List V->List D
 |[]=>[]
 |v::r=>encV bs v::zCJ bs r
def encE(bs:List Nat): Env->D
 | .nil=>.val (.pointer none)
 | .cons n v up=>.ref [str n,encV bs v,encE bs up]
end
theorem zMe{l m:List Nat}(h:l <+: m){i:Nat}(hi:i<l.length): m.getD i 0=l.getD i 0:=by
 obtain⟨r,rfl⟩:=h
 rw[qAQ,qAQ,qAD hi]
mutual
theorem zHD{l m:List Nat}(h:l <+: m): ∀(v:V),v.wf l.length->encV m v=encV l v
 | .num _,_=>rfl
 | .text _,_=>rfl
 | .con _ _ args,hv=>by rw[encV,encV,zF9 h args hv]
 | .prim _ args,hv=>by rw[encV,encV,zF9 h args hv]
 | .fn _ _ _ env,hv=>by rw[encV,encV,zJY h env hv]
 | .cell i,hv=>by rw[encV,encV,zMe h hv]
theorem zF9{l m:List Nat}(h:l <+: m): ∀(r:List V),wfs l.length r->zCJ m r=zCJ l r
 |[],_=>rfl
 |v::r,hv=>by rw[zCJ,zCJ,zHD h v hv.1,zF9 h r hv.2]
theorem zJY{l m:List Nat}(h:l <+: m): ∀(e:Env),e.wf l.length->encE m e=encE l e
 | .nil,_=>rfl
 | .cons _ v up,hv=>by rw[encE,encE,zHD h v hv.1,zJY h up hv.2]
end
theorem zDE(bs:List Nat): ∀l:List V,zCJ bs l=l.map (encV bs)
 |[]=>rfl
 |v::r=>by rw[zCJ,qBN,zDE bs r]
theorem zCg(bs:List Nat)(l:List V): (zCJ bs l).length=l.length:=by rw[zDE,qAK]
theorem zGA(bs:List Nat)(l m:List V): zCJ bs (l++m)=zCJ bs l++zCJ bs m:=by rw[zDE,zDE,zDE,qAh]
def zA2(bs:List Nat)(cs:List V): List (Nat×D):=List.zip bs (zCJ bs cs)
theorem zDz{bs:List Nat}{cs:List V}(hl:bs.length=cs.length){i:Nat}(hi:i<cs.length): (zA2 bs cs)[i]?=some (bs.getD i 0,encV bs (cs.getD i default)):=by
 unfold zA2
 rw[List.getElem?_zip_eq_some,zDE,qAG,qAQ,qAQ]
 rw[qAB (by omega:i<bs.length),qAB hi]
 exact⟨rfl,rfl⟩
theorem zAb{bs bs':List Nat}{cs cs':List V}(h:bs <+: bs')(hl:bs.length=cs.length)(hl':bs'.length=cs'.length): ∀(j b:Nat) (d:D),(zA2 bs cs)[j]?=some (b,d)->∃d',(zA2 bs' cs')[j]?=some (b,d'):=by
 intro j b d hj
 have hjl:j<cs.length:=by
  have h1:=(qAA.1 hj).1
  unfold zA2 at h1
  rw[List.length_zip,zCg]at h1;omega
 have hle:=h.length_le
 rw[zDz hl hjl]at hj
 injection hj with hj;injection hj with h1 h2;subst h1
 exact⟨_,by rw[zDz hl' (by omega),zMe h (by omega)]⟩
abbrev MB(L:List Nd)(T:List Dt)(fuel:Nat)(s:S): List Ob :=
 [.box [.d (zAm L),.d (dts T),.d (i64 (fuel:Int)),.d (i64 (s.steps:Int)),.buf 1 s.out.length,.d (i64 s.fin),.d (i64 s.raised)],
  .buf true 9 1 (s.out.map str)]
open _root_.Go.Proofs.Tryz
open Go.RowKit
theorem zCc: zBB prog 22=some 3:=by kernel_rfl
theorem zD6: (zBu prog 22).isSome=true:=by kernel_rfl
theorem zMt: zBu prog 22=some 70:=by kernel_rfl
theorem zTz: zDG prog 22=some 48:=by kernel_rfl
theorem zE7: zA9 prog 22=some (false,1):=by kernel_rfl
theorem zE8: zAt prog 70 0=some 0:=by kernel_rfl
theorem zHt: zAt prog 70 1=some 1:=by kernel_rfl
theorem zB4: zAt prog 70 2=some 2:=by kernel_rfl
theorem zE6: zA9 prog 70=some (true,3):=by kernel_rfl
theorem zTx: zDM prog 70=some 3:=by kernel_rfl
theorem zTv: (zBJ prog 70).isSome=true:=by kernel_rfl
theorem zLe: zBJ prog 70=some [.string ByteArray.empty,.int .i64 0,.slice none 0 0]:=by kernel_rfl
theorem zEO: zBB prog 68=some 2:=by kernel_rfl
theorem zEN: (zBu prog 68).isSome=true:=by kernel_rfl
theorem zC0: zA9 prog 68=some (false,1):=by kernel_rfl
theorem zEY: zAt prog 67 0=some 0:=by kernel_rfl
theorem zB1: zAt prog 67 1=some 1:=by kernel_rfl
theorem zE5: zA9 prog 67=some (true,2):=by kernel_rfl
theorem zJP: zBJ prog 67=some [.string ByteArray.empty,.slice none 0 0]:=by kernel_rfl
theorem zAn: zAt prog 55 0=some 0:=by kernel_rfl
theorem zPt: zAt prog 55 1=some 1:=by kernel_rfl
theorem zBb: zAt prog 55 2=some 2:=by kernel_rfl
theorem zBG: zAt prog 55 3=some 3:=by kernel_rfl
theorem zDd: zAt prog 55 4=some 4:=by kernel_rfl
theorem zAy: zAt prog 55 5=some 5:=by kernel_rfl
theorem zHs: zAt prog 55 6=some 6:=by kernel_rfl
theorem zTw: zBJ prog 55=some [.slice none 0 0,.slice none 0 0,.int .i64 0,.int .i64 0,.slice none 0 0,.int .i64 0,.int .i64 0]:=by kernel_rfl
theorem zTy: zB2 prog 55=some [(0,1),(1,1),(2,1),(3,1),(4,1),(5,1),(6,1)]:=by kernel_rfl
theorem zB0: zA9 prog 57=some (false,1):=by kernel_rfl
theorem zLf: zDM prog 57=some 1:=by kernel_rfl
theorem zLd: (zBJ prog 57).isSome=true:=by kernel_rfl
theorem zLg: zA9 prog 99=some (false,1):=by kernel_rfl
theorem zPs: zAt prog 117 0=some 0:=by kernel_rfl
theorem zPr: zAt prog 117 1=some 1:=by kernel_rfl
theorem zPq: zAt prog 117 2=some 2:=by kernel_rfl
theorem zFj: zBJ prog 117=some [.string ByteArray.empty,.nilIface,.pointer none]:=by kernel_rfl
theorem zFk: zB2 prog 117=some [(0,1),(1,1),(2,1)]:=by kernel_rfl
theorem zD5: zAt prog 101 0=some 0:=by kernel_rfl
theorem zCp: zA9 prog 101=some (true,1):=by kernel_rfl
theorem zBR: zBJ prog 101=some [.int .i64 0]:=by kernel_rfl
theorem zCw: zB2 prog 101=some [(0,1)]:=by kernel_rfl
theorem zEa: zAt prog 106 0=some 0:=by kernel_rfl
theorem zDp: zA9 prog 106=some (true,1):=by kernel_rfl
theorem zCU: zBJ prog 106=some [.string ByteArray.empty]:=by kernel_rfl
theorem zMs: zB2 prog 106=some [(0,1)]:=by kernel_rfl
theorem zFN: zAt prog 111 0=some 0:=by kernel_rfl
theorem zDS: zAt prog 111 1=some 1:=by kernel_rfl
theorem zDy: zAt prog 111 2=some 2:=by kernel_rfl
theorem zMm: zBJ prog 111=some [.string ByteArray.empty,.slice none 0 0,.int .i64 0]:=by kernel_rfl
theorem zMr: zB2 prog 111=some [(0,1),(1,1),(2,1)]:=by kernel_rfl
theorem zBK: zBB prog 109=some 1:=by kernel_rfl
theorem zEK: (zBu prog 109).isSome=true:=by kernel_rfl
theorem zEc: zBu prog 109=some 57:=by kernel_rfl
theorem zJV: zDG prog 109=some 16:=by kernel_rfl
theorem zDo: zA9 prog 109=some (false,1):=by kernel_rfl
theorem zIn: zAt prog 114 0=some 0:=by kernel_rfl
theorem zIm: zAt prog 114 1=some 1:=by kernel_rfl
theorem zIl: zAt prog 114 2=some 2:=by kernel_rfl
theorem zIk: zAt prog 114 3=some 3:=by kernel_rfl
theorem zMl: zBJ prog 114=some [.string ByteArray.empty,.int .i64 0,.pointer none,.string ByteArray.empty]:=by kernel_rfl
theorem zMq: zB2 prog 114=some [(0,1),(1,1),(2,1),(3,1)]:=by kernel_rfl
theorem zIj: zAt prog 167 0=some 0:=by kernel_rfl
theorem zIi: zAt prog 167 1=some 3:=by kernel_rfl
theorem zMk: zBJ prog 167=some [.string ByteArray.empty,.int .i64 0,.nilFunc,.slice none 0 0]:=by kernel_rfl
theorem zMp: zB2 prog 167=some [(0,3),(3,1)]:=by kernel_rfl
theorem zIh: zAt prog 157 0=some 0:=by kernel_rfl
theorem zRo: zBJ prog 157=some [.nilIface]:=by kernel_rfl
theorem zRr: zB2 prog 157=some [(0,1)]:=by kernel_rfl
theorem zFM: zAt prog 90 0=some 0:=by kernel_rfl
theorem zIg: zAt prog 90 1=some 1:=by kernel_rfl
theorem zNi: zAt prog 90 2=some 2:=by kernel_rfl
theorem zCF: zA9 prog 90=some (true,3):=by kernel_rfl
theorem zRl: (zBJ prog 90).isSome=true:=by kernel_rfl
theorem zCO: zBJ prog 90=some [.string ByteArray.empty,.int .i64 0,.nilFunc]:=by kernel_rfl
theorem zDq: zB2 prog 90=some [(0,1),(1,1),(2,1)]:=by kernel_rfl
theorem zFP: zBB prog 86=some 3:=by kernel_rfl
theorem zMu: (zBu prog 86).isSome=true:=by kernel_rfl
theorem zPu: zBu prog 86=some 90:=by kernel_rfl
theorem zRq: zA9 prog 88=some (false,1):=by kernel_rfl
theorem zRp: zA9 prog 149=some (false,1):=by kernel_rfl
theorem zDx: zAt prog 29 0=some 0:=by kernel_rfl
theorem zEZ: zAt prog 29 1=some 1:=by kernel_rfl
theorem zIf: zAt prog 29 2=some 2:=by kernel_rfl
theorem zGe: zAt prog 29 3=some 3:=by kernel_rfl
theorem zGd: zAt prog 29 4=some 4:=by kernel_rfl
theorem zBt: zA9 prog 29=some (true,5):=by kernel_rfl
theorem zCb: zBJ prog 29=some [.int .i64 0,.slice none 0 0,.int .i64 0,.slice none 0 0,.int .i64 0]:=by kernel_rfl
theorem zF8: zB2 prog 29=some [(0,1),(1,1),(2,1),(3,1),(4,1)]:=by kernel_rfl
theorem zAz: zA9 prog 26=some (false,1):=by kernel_rfl
theorem zFO: zBB prog 40=some 2:=by kernel_rfl
theorem zRs: (zBu prog 40).isSome=true:=by kernel_rfl
theorem zEb: zBu prog 40=some 45:=by kernel_rfl
theorem zJU: zDG prog 40=some 40:=by kernel_rfl
theorem zJR: zDM prog 45=some 2:=by kernel_rfl
theorem zJO: (zBJ prog 45).isSome=true:=by kernel_rfl
theorem zJQ: zBJ prog 45=some [.string ByteArray.empty,.slice none 0 0]:=by kernel_rfl
theorem zJT: zB2 prog 45=some [(0,1),(1,1)]:=by kernel_rfl
theorem zMo: zA9 prog 50=some (false,1):=by kernel_rfl
theorem zRn: zBJ prog 50=some [.nilFunc]:=by kernel_rfl
theorem zMn: zA9 prog 132=some (false,1):=by kernel_rfl
theorem zRm: zBJ prog 132=some [.nilFunc]:=by kernel_rfl
theorem zCP: zA9 prog 65=some (false,1):=by kernel_rfl
theorem zCe: zAK prog 23=true:=by kernel_rfl
theorem zRX: zAK prog 49=true:=by kernel_rfl
theorem zJG: zAK prog 51=true:=by kernel_rfl
theorem zTg: zAK prog 47=true:=by kernel_rfl
theorem zCo: zAK prog 45=true:=by kernel_rfl
theorem zHB: zAK prog 50=true:=by kernel_rfl
theorem zFg: zAK prog 36=true:=by kernel_rfl
theorem zPR: zAK prog 78=true:=by kernel_rfl
theorem zFf: zAK prog 86=true:=by kernel_rfl
theorem zHA: zAK prog 95=true:=by kernel_rfl
theorem zSd: zAK prog 99=true:=by kernel_rfl
theorem zU0: zAK prog 101=true:=by kernel_rfl
theorem zUz: zAK prog 105=true:=by kernel_rfl
theorem zFe: zAK prog 266=true:=by kernel_rfl
theorem zF7: zAK prog 8=true:=by kernel_rfl
theorem zJH: zAK prog 12=true:=by kernel_rfl
theorem zRV: zAK prog 31=true:=by kernel_rfl
theorem zMa: zAK prog 35=true:=by kernel_rfl
theorem zLV: zAK prog 16=true:=by kernel_rfl
theorem zRW: zAK prog 145=true:=by kernel_rfl
theorem zEm: zAK prog 147=true:=by kernel_rfl
theorem zPQ: zAK prog 77=true:=by kernel_rfl
theorem zVx: zAK prog 87=true:=by kernel_rfl
theorem zVw: zAK prog 89=true:=by kernel_rfl
theorem zVv: zAK prog 91=true:=by kernel_rfl
theorem zVu: zAK prog 93=true:=by kernel_rfl
theorem zVt: zAK prog 96=true:=by kernel_rfl
theorem zVs: zAK prog 98=true:=by kernel_rfl
theorem zVr: zAK prog 100=true:=by kernel_rfl
theorem zVq: zAK prog 102=true:=by kernel_rfl
theorem zVp: zAK prog 103=true:=by kernel_rfl
theorem zU3: zAK prog 104=true:=by kernel_rfl
theorem zU2: zAK prog 106=true:=by kernel_rfl
theorem zU1: zAK prog 108=true:=by kernel_rfl
theorem zLT: zAK prog 265=true:=by kernel_rfl
theorem zKK: zAK prog 267=true:=by kernel_rfl
theorem zLU: zAK prog 268=true:=by kernel_rfl
theorem zKM: zAK prog 269=true:=by kernel_rfl
theorem zKN: zAK prog 270=true:=by kernel_rfl
theorem zKL: zAK prog 271=true:=by kernel_rfl
theorem zRZ: zAK prog 30=true:=by kernel_rfl
theorem zRY: zAK prog 63=true:=by kernel_rfl
theorem zLW: zAK prog 67=true:=by kernel_rfl
theorem zJI: zAK prog 69=true:=by kernel_rfl
theorem zFh: zAK prog 48=true:=by kernel_rfl
theorem zJJ: zAK prog 37=true:=by kernel_rfl
theorem zPY: zAK prog 62=true:=by kernel_rfl
theorem zPX: zAK prog 65=true:=by kernel_rfl
theorem zPW: zAK prog 66=true:=by kernel_rfl
theorem zPV: zAK prog 68=true:=by kernel_rfl
theorem zNY: zAK prog 70=true:=by kernel_rfl
theorem zPU: zAK prog 71=true:=by kernel_rfl
theorem zNX: zAK prog 73=true:=by kernel_rfl
theorem zMb: zAK prog 116=true:=by kernel_rfl
theorem zPT: zAK prog 135=true:=by kernel_rfl
theorem zNW: zAK prog 136=true:=by kernel_rfl
theorem zPS: zAK prog 139=true:=by kernel_rfl
theorem zSc: zAK prog 61=true:=by kernel_rfl
theorem zPN: zAK prog 64=true:=by kernel_rfl
theorem zPO: zAK prog 72=true:=by kernel_rfl
theorem zTf: zAK prog 140=true:=by kernel_rfl
theorem zUy: zAK prog 137=true:=by kernel_rfl
theorem zUv: zAK prog 171=true:=by kernel_rfl
theorem zUw: zAK prog 75=true:=by kernel_rfl
theorem zUt: zAK prog 142=true:=by kernel_rfl
theorem zUx: zAK prog 74=true:=by kernel_rfl
theorem zUu: zAK prog 141=true:=by kernel_rfl
theorem zSb: zAK prog 144=true:=by kernel_rfl
theorem zEl: zAK prog 6=true:=by kernel_rfl
theorem zHq: zAK prog 7=true:=by kernel_rfl
theorem zPP: zAK prog 10=true:=by kernel_rfl
theorem zJF: zAK prog 9=true:=by kernel_rfl
theorem zRa: zAK prog 13=true:=by kernel_rfl
theorem zTh: zAK prog 22=true:=by kernel_rfl
theorem zBq: conc prog 101=true:=by kernel_rfl
theorem zCC: conc prog 106=true:=by kernel_rfl
theorem zDA: conc prog 108=true:=by kernel_rfl
theorem zCS: conc prog 112=true:=by kernel_rfl
theorem zCX: conc prog 165=true:=by kernel_rfl
theorem zH3: conc prog 155=true:=by kernel_rfl
theorem zFo: zIx prog 101=some (.agg [i64 0]):=by kernel_rfl
theorem zHH: zIx prog 106=some (.agg [.val (.string ByteArray.empty)]):=by kernel_rfl
theorem zSR: zIx prog 108=some (.val (.pointer none)):=by kernel_rfl
theorem zHI: zIx prog 112=some (.val (.pointer none)):=by kernel_rfl
theorem zK8: zIx prog 165=some (.val (.pointer none)):=by kernel_rfl
theorem zN5: zIx prog 155=some (.val (.pointer none)):=by kernel_rfl
end Go.Proofs.YtjcgiiedaccjpaaGreatDoor
namespace Go.Proofs.YtjcgiiedaccjpaaGreatDoor
open _root_.Go.Proofs.Tryz
open Go.Sx Go.RowKit
attribute [local irreducible] Ylds zA3 alex zBc zBL awp zAc zBd zBi zBS zA5 zBT zBY zBe
def popF: List Int->List Int
 |0::y::r=>popF ((y-1)::r)
 |[0]=>[]
 |s=>s
termination_by s=>s.length
def zKj: List Nd->Int->List Int->Int
 |[],m,_=>m
 |x::r,m,s=>zKj r (max m (s.length+1)) (popF (x.kids::s))
def zIG(L:List Nd): Int:=if zDJ L then zKj L 0 []else 0
theorem zHk: (zBB prog 103).isSome=true:=by rw[zBl];rfl
theorem zOo(y:Int)(r:List Int): popF (0::y::r)=popF ((y-1)::r):=by rw[popF]
theorem zQ5: popF [0]=[]:=by rw[popF]
theorem zMK: popF []=[]:=by rw[popF] <;> simp
theorem zOp{y:Int}{r:List Int}(h:¬y=0): popF (y::r)=y::r:=by
 rw[popF]
 ·rintro y' r' h1;injection h1 with h1;exact h h1
 ·rintro h1;injection h1 with h1;exact h h1
def stk(s:List Int)(tl:List D): List D:=s.reverse.map ival++tl
theorem zSV(y:Int)(r:List Int)(tl:List D): (stk (y::r) tl)[r.length]?=some (ival y):=by
 simp[stk]
theorem zS9(y z:Int)(r:List Int)(tl:List D): (stk (y::r) tl).set r.length (ival z)=stk (z::r) tl:=by
 simp[stk]
theorem zLC(y:Int)(r:List Int)(tl:List D): stk (y::r) tl=stk r (ival y::tl):=by
 simp[stk]
theorem zOS(y:Int)(r:List Int)(tl:List D): (stk (y::r) tl)[(((y::r).length:Int)-1).toNat]?=some (ival y):=by
 rw[show ((((y::r).length:Nat):Int)-1).toNat=r.length by simp];exact zSV y r tl
theorem zTA(y z:Int)(r:List Int)(tl:List D): (stk (y::z::r) tl)[((((((y::z::r).length:Int)-1).toNat:Nat):Int)-1).toNat]?=some (ival z):=by
 rw[show ((((((y::z::r).length:Int)-1).toNat:Nat):Int)-1).toNat=r.length by simp,zLC];exact zSV z r _
theorem zQy(y z c:Int)(r:List Int)(tl:List D): (stk (y::z::r) tl).set ((((((y::z::r).length:Int)-1).toNat:Nat):Int)-1).toNat (ival c)=stk (c::r) (ival y::tl):=by
 rw[show ((((((y::z::r).length:Int)-1).toNat:Nat):Int)-1).toNat=r.length by simp,zLC,zS9]
theorem zQz(y:Int)(r:List Int)(tl:List D): (stk r tl).take r.length++[ival y]=stk (y::r) []:=by
 have:(r.reverse.map ival++tl).take r.length=r.reverse.map ival:=by
  rw[List.take_append_of_le_length (by simp),qAn (by simp)]
 rw[stk,this];simp[stk]
theorem zLD(r:List Int)(tl:List D): r.length<=(stk r tl).length:=by simp[stk]
theorem zKY{n:Nat}: ∀{l:List Nd} {o a:Int},0<=a->zEB n l o a=a+l.length->l≠[]->∀x∈l,0<=x.kids/\x.kids<=n
 |[],_,_,_,_,h=>absurd rfl h
 |y::r,o,a,ha,h,_=>by
  unfold zEB at h
  intro x hx
  split at h
  ·simp only[qAJ]at h;omega
  ·rename_i hk
   split at h
   ·rcases qAs.1 hx with rfl|hx
    ·omega
    ·refine zKY (o:=o+(y.kids-1)) (a:=a+1) (by omega) ?_ (List.ne_nil_of_mem hx) x hx
     rw[h];simp only[qAJ];omega
   ·simp only[qAJ]at h
    have:r=[]:=List.length_eq_zero_iff.1 (by omega)
    subst this
    rcases qAs.1 hx with rfl|hx
    ·omega
    ·cases hx
theorem zNB{L:List Nd}(hw:zDJ L=true)(i:Nat)(v:Nd)(hv:L[i]?=some v): 0<=v.kids/\v.kids<=(L.length:Int):=by
 simp[zDJ]at hw
 have h1:zEB L.length L 1 0=0+L.length:=by
  have:=hw.2;rw[endF,if_neg (by omega)]at this;simpa using this
 exact zKY (by omega) h1 (by rintro rfl;simp at hw) v (qAE hv)
theorem zUM(L:List Nd)(hL:L.length<=1000000): zAc prog 124 [zAm L] (i64 (zIG L)):=by
 refine zAX func124 rfl ntmps124 results124 rfl ?_
 intro wb St0
 repeat' first|apply en_n|apply zAE|apply zAA|apply zAD|apply w0|(apply zAU (hb:=zFI) (hc:=zHF L (by omega)))|apply ay (hd:=rfl)|exact zAC rfl|exact zAB rfl|exact zAo rfl zA8|exact zBX rfl|exact zA4 rfl|(apply zBw;exact rfl;all_goals intro hb)|apply zAI|apply zAO|apply zAM|apply en_r|apply zAL|refine res1 rfl ?_|exact zAF|refine zAP rfl ?_
 ·rw[zIG,if_neg (by simpa using hb)]
 ·have hw:zDJ L=true:=by simpa using hb
  have hkb:=zNB hw
  refine zDV 3 true 3 1 rfl rfl ?_
  refine zAv (α:=Nat×Int×List Int×List D) (fun p=>p.1<=L.length/\zKj (L.drop p.1) p.2.1 p.2.2.1=zIG L/\p.2.2.1.length<=p.1/\(0<=p.2.1/\p.2.1<=1000001)/\∀e∈p.2.2.1,-(p.1:Int)+p.2.2.1.length<=e/\e<=1000000)
   (fun p=>[(3,.buf 0 p.2.2.1.length),(4,.d (i64 p.2.1)),(10,.d (zAm L)),(11,.d (i64 (L.length:Int))),(12,.d (i64 (p.1:Int)))]) (fun p=>[.buf true 3 1 (stk p.2.2.1 p.2.2.2)]) (fun p=>L.length-p.1) (0,0,[],[]) ⟨qAR _,by rw[zIG,if_pos hw];rfl,qAM _,⟨Int.le_refl 0,by decide⟩,by simp⟩
   (zAV (Le_all rfl) (zAT rfl rfl zAW) rfl rfl) ?_
  rintro⟨i,m,st,tl⟩ ⟨hi,hd,hs,hm,he⟩
  simp only at hi hd hs hm he ⊢
  repeat' first|apply en_n|apply zAE|apply zAA|apply zAD|apply w0|(apply zVP (sz:=1) (mu:=true) (hd:=rfl) (hro:=rfl);exact rfl;exact rfl;rotate_left;exact(fun h=>nomatch h);exact zAq rfl;exact rfl;(with_reducible exact zFL);(with_reducible exact zBl);(with_reducible exact zN8);(with_reducible exact zLl);exact zDK rfl;rotate_right)|(apply aI (hd:=rfl);(first|exact zAq rfl|exact Co_bb rfl rfl rfl|exact Co_nn rfl);exact rfl;(with_reducible exact zAa);exact fun _=>rfl;rotate_left;intro v hv;rotate_right)|(apply zBF (hd:=rfl) (hro:=rfl);(with_reducible exact zAx))|apply ay (hd:=rfl)|exact zAC rfl|exact zAB rfl|(apply zAg;exact rfl;(with_reducible exact zAZ);exact rfl)|exact zCs rfl rfl|refine zBE rfl rfl ?_|exact zWD rfl rfl|exact zBA rfl|exact zAs rfl|exact zCj rfl zDk|(apply zAH;exact rfl;(with_reducible exact fn_3))|(apply zAJ;exact rfl;(with_reducible exact zAd);exact rfl;exact rfl)|(apply zCi;(with_reducible exact zFL);(with_reducible exact zBl);(with_reducible exact zN6);exact rfl;exact rfl;(first|exact zAP rfl zAF|exact zEC rfl rfl rfl zAF|exact zFE rfl zAF);exact rfl)|(refine w0' ?_)|(apply zAl;exact rfl;exact rfl;exact rfl;(with_reducible exact zAZ);exact rfl;exact rfl;exact rfl;exact rfl)|(apply zAw;exact rfl;all_goals intro hb)|apply zAI|apply zAO|apply zAM|apply zA0|apply en_e|apply eb_e|apply zAL|refine res1 rfl ?_
  ·omega
  ·omega
  ·exact zLD _ _
  ·simp only[qBK];omega
  ·simp only[qBK];omega
  ·have hk:=hkb i v hv
   have hvi:L[i]?=some v:=hv
   have hout:∀s,popF s=popF (v.kids::st)->popF s=s->zKj (L.drop (i+1)) (max m ((st.length:Int)+1)) s=zIG L:=by
    intro s h1 h2
    obtain⟨hil,hev⟩:=qAA.1 hvi
    rw[<-hd,qAZ hil,hev,zKj,<-h1,h2]
   refine zAv (α:=List Int×List D) (fun p=>popF p.1=popF (v.kids::st)/\p.1.length<=i+1/\∀e∈p.1,-((i:Int)+1)+p.1.length<=e/\e<=1000000)
    (fun p=>[(3,.buf 0 p.1.length),(4,.d (i64 (max m ((st.length:Int)+1)))),(10,.d (zAm L)),(11,.d (i64 (L.length:Int))),(12,.d (i64 (i:Int)))]) (fun p=>[.buf true 3 1 (stk p.1 p.2)]) (fun p=>p.1.length) (v.kids::st,[]) ⟨rfl,by simp only[qAJ];omega,?_⟩
    (zAV (zCu rfl rfl (Le_all rfl)) (zBM rfl rfl (zQz _ _ _).symm zAW) rfl rfl) ?_
   ·intro e he'
    rcases qAs.1 he' with rfl|he'
    ·simp only[qAJ];omega
    ·have:=he e he';simp only[qAJ];omega
   rintro⟨s,tl'⟩ ⟨hp,hl,hb'⟩
   simp only at hp hl hb' ⊢
   rcases s with _|⟨y,_|⟨z,r⟩⟩
   ·skip
    repeat' first|apply en_n|apply zAE|apply zAA|apply zAD|apply w0|apply ay (hd:=rfl)|exact zAC rfl|exact zGL rfl rfl|refine zBE rfl rfl ?_|exact zAj rfl rfl|exact zBA rfl|exact zCj rfl zDk|refine k1 (hd:=rfl) rfl rfl ?_|refine zAQ rfl ?_|apply zA0|apply en_e|apply eb_n|apply eb_e
    ·omega
    ·refine⟨(i+1,max m ((st.length:Int)+1),[],tl'),⟨by simp only;omega,hout _ hp zMK,hl,⟨by simp only;omega,by simp only;omega⟩,fun e h0=>by have:=hb' e h0;simp only;omega⟩,by simp only;omega,zAV (Le_all rfl) (zAT rfl rfl zAW) rfl rfl⟩
   ·have hsl:=zLD [y] tl'
    have hy:=hb' y (by simp)
    repeat' first|apply en_n|apply zAE|apply zAA|apply zAD|apply w0|(refine zQT (hro:=rfl) rfl rfl rfl (by with_reducible exact zAd) rfl rfl ?_ ?_)|(refine zK2 rfl rfl rfl (by with_reducible exact zBl) ?_ ?_)|(refine zJf rfl (by with_reducible exact zAd) rfl (zOS _ _ _) rfl)|(refine zSo rfl (by with_reducible exact zHk) rfl ?_ ⟨_,_,_,_,rfl,?_⟩)|apply ay (hd:=rfl)|exact zAC rfl|exact zGL rfl rfl|exact zEA rfl rfl|refine zBE rfl rfl ?_|refine zIJ rfl rfl ?_|exact zAi rfl rfl|exact zBA rfl|exact zAs rfl|exact zCj rfl zDk|refine w1 rfl rfl ?_|(refine w0' ?_)|(apply zAw;exact rfl;all_goals intro hb)|apply zAI|apply zAO|apply zA0|apply en_e|apply eb_n|apply eb_e
    all_goals try (simp only[qAJ,qAa]at *;omega)
    ·rename_i hy0
     refine⟨([],ival y::tl'),⟨by rw[<-hp,hy0,zQ5,zMK],qAR _,by simp⟩,by simp,zAV (zCu rfl rfl (Le_all rfl)) (zBM rfl rfl (zLC y [] tl').symm zAW) rfl rfl⟩
    ·refine⟨(i+1,max m ((st.length:Int)+1),[y],tl'),⟨by simp only;omega,hout _ hp (zOp hb),hl,⟨by simp only;omega,by simp only;omega⟩,fun e h0=>by have:=hb' e h0;simp only;omega⟩,by simp only;omega,zAV (Le_all rfl) (zAT rfl rfl zAW) rfl rfl⟩
   ·have hsl:=zLD (y::z::r) tl'
    have hy:=hb' y (by simp)
    have hz:=hb' z (by simp)
    repeat' first|apply en_n|apply zAE|apply zAA|apply zAD|apply w0|(refine zQT (hro:=rfl) rfl rfl rfl (by with_reducible exact zAd) rfl rfl ?_ ?_)|(refine zK2 rfl rfl rfl (by with_reducible exact zBl) ?_ ?_)|(refine zJf rfl (by with_reducible exact zAd) rfl (zOS _ _ _) rfl)|(refine zJf rfl (by with_reducible exact zAd) rfl (zTA _ _ _ _) rfl)|(refine zSo rfl (by with_reducible exact zHk) rfl ?_ ⟨_,_,_,_,rfl,?_⟩)|apply ay (hd:=rfl)|exact zAC rfl|exact zGL rfl rfl|exact zEA rfl rfl|refine zBE rfl rfl ?_|refine zIJ rfl rfl ?_|exact zAi rfl rfl|exact zAj rfl rfl|exact zBA rfl|exact zAs rfl|exact zCj rfl zDk|refine w1 rfl rfl ?_|refine k1 (hd:=rfl) rfl rfl ?_|(apply gD;exact rfl;exact rfl;all_goals intro hb)|(refine w0' ?_)|(apply zAw;exact rfl;all_goals intro hb)|refine zAQ rfl ?_|apply zAI|apply zAO|apply zA0|apply en_e|apply eb_n|apply eb_e
    all_goals try (simp only[qAJ]at *;omega)
    ·rename_i hy0
     refine⟨((z-1)::r,ival y::tl'),⟨?_,?_,?_⟩,by simp,zAV (zCu rfl ?_ (Le_all rfl)) (zBM rfl rfl (zQy y z (z-1) r tl').symm zAW) rfl rfl⟩
     ·rw[<-hp,hy0,zOo]
     ·simp only[qAJ]at *;omega
     ·intro e h0
      rcases qAs.1 h0 with rfl|h0
      ·simp only[qAJ]at *;omega
      ·have:=hb' e (by simp[h0]);simp only[qAJ]at *;omega
     ·simp only[qAJ];omega
    ·refine⟨(i+1,max m ((st.length:Int)+1),y::z::r,tl'),⟨by simp only;omega,hout _ hp (zOp hb),hl,⟨by simp only;omega,by simp only;omega⟩,fun e h0=>by have:=hb' e h0;simp only;omega⟩,by simp only;omega,zAV (Le_all rfl) (zAT rfl rfl zAW) rfl rfl⟩
  ·rw[<-hd,qAk (by omega)];rfl
end Go.Proofs.YtjcgiiedaccjpaaGreatDoor
namespace Go.Proofs.YtjcgiiedaccjpaaGreatDoor
end Go.Proofs.YtjcgiiedaccjpaaGreatDoor
namespace Go.Ev
variable {shw:Int->List UInt8}
def Pg.fuelOf(P:Pg)(n:Nat): Pg:={ P with fuel:=n }
theorem zJ9(P:Pg)(n:Nat)(mt:Nat->V->Env->Option Env)(k:Nat): ∀(l:List V) (j:Nat) (e:Env),matK (P.fuelOf n) mt k j l e=matK P mt k j l e
 |[],_,_=>rfl
 |v::r,j,e=>by
  unfold matK
  show (match mt (P.kid k j) v e with|none=>none|some e=>matK (P.fuelOf n) mt k (j+1) r e)=_
  cases mt (P.kid k j) v e with
  |none=>rfl
  |some e=>exact zJ9 P n mt k r (j+1) e
theorem zMR(P:Pg)(n:Nat): ∀f,mat (P.fuelOf n) f=mat P f
 |0=>rfl
 |f+1=>by
  funext k v e
  unfold mat
  rw[zMR P n f]
  simp only[zJ9]
  rfl
theorem zJn(P:Pg)(n:Nat)(s:List UInt8): ∀e,told (P.fuelOf n) s e=told P s e
 | .nil=>rfl
 | .cons m v up=>by unfold told;rw[zJn P n s up]
theorem zKw(P:Pg)(n:Nat)(ex:S->Nat->Env->V×S)(mt:Nat->V->Env->Option Env)(s:S)(k:Nat)(v:V)(e:Env): ∀c i,s.arms ex mt (P.fuelOf n) k v e c i=s.arms ex mt P k v e c i
 |0,_=>rfl
 |c+1,i=>by
  unfold S.arms
  show (match mt (P.kid k i) v e with|some e=>ex s (P.kid k (i+1)) e|none=>s.arms ex mt (P.fuelOf n) k v e c (i+2))=_
  cases mt (P.kid k i) v e with
  |some e=>rfl
  |none=>exact zKw P n ex mt s k v e c (i+2)
def Rr(F:Nat)(a b:V×S): Prop:=(a.2.fin≠3/\a=b)\/(a.2.fin=3/\a.1=.num 0/\a.2.steps=F/\a.2.out <+: b.2.out/\F<=b.2.steps)
theorem Rr.bind{F:Nat}{a b:V×S}{K L:V×S->V×S}(h:Rr F a b)(h1:a.2.fin≠3->Rr F (K a) (L a))(h2:a.2.fin=3->a.1=.num 0->K a=(.num 0,a.2))(h3:Fo b.2 (L b).2): Rr F (K a) (L b):=by
 rcases h with⟨h,e⟩|⟨h,e,hs,ho,hl⟩
 ·subst e;exact h1 h
 ·right
  rw[h2 h e]
  exact⟨h,rfl,hs,ho.trans h3.out,qAi hl h3.le⟩
theorem Rr.same{F:Nat}{a:V×S}(h:a.2.fin≠3): Rr F a a:=.inl ⟨h,rfl⟩
theorem zTP(s:S)(p:Nat)(a b:Int)(h:s.fin≠3): (s.ints p a b).2.fin≠3:=by
 unfold S.ints
 repeat' split
 all_goals first|exact h|(show (2:Int)≠3;decide)
theorem zU9(s:S)(p:Nat)(l:List V)(h:s.fin≠3): (s.doP shw p l).2.fin≠3:=by
 unfold S.doP;dsimp only
 repeat' split
 all_goals first|exact zTP s p _ _ h|exact h|(show (2:Int)≠3;decide)|(show (4:Int)≠3;decide)
theorem zUA{F:Nat}{ex ex':S->Nat->Env->V×S}{s:S}(h:∀k e,Rr F (ex s k e) (ex' s k e))(f a:V)(h3:s.fin≠3): Rr F (s.apply shw ex f a) (s.apply shw ex' f a):=by
 unfold S.apply
 split
 ·exact .same h3
 ·split
  ·exact h _ _
  ·split
   ·exact .same (zU9 s _ _ h3)
   ·exact .same h3
  ·split
   ·exact .same h3
   ·exact .same (show (4:Int)≠3 by decide)
  ·exact .same (show (4:Int)≠3 by decide)
theorem zSl{F:Nat}{ex ex':S->Nat->Env->V×S}{s:S}(h:∀k e,Rr F (ex s k e) (ex' s k e))(mt:Nat->V->Env->Option Env)(P:Pg)(k:Nat)(v:V)(e:Env): ∀c i,Rr F (s.arms ex mt P k v e c i) (s.arms ex' mt P k v e c i)
 |0,_=>.same (show (2:Int)≠3 by decide)
 |c+1,i=>by
  unfold S.arms
  split
  ·exact h _ _
  ·exact zSl h mt P k v e c (i+2)
theorem zFS{F:Nat}{p:Prop}[Decidable p]{a b c d:V×S}(ha:p->Rr F a c)(hb:¬p->Rr F b d): Rr F (if p then a else b) (if p then c else d):=by by_cases h:p;rw[if_pos h,if_pos h];exact ha h;rw[if_neg h,if_neg h];exact hb h
theorem zU6(P:Pg)(F j:Nat): ∀f s k e,s.fin≠3->s.steps<=F->F+j<f+s.steps->Rr F (exp shw (P.fuelOf F) f s k e) (exp shw (P.fuelOf (F+j)) f s k e)
 |0,s,k,e,h3,hs,hf=>absurd hf (by omega)
 |f+1,s,k,e,h3,hs,hf=>by
  have ih:∀t k e,t.fin≠3->t.steps<=F->s.steps<t.steps->Rr F (exp shw (P.fuelOf F) f t k e) (exp shw (P.fuelOf (F+j)) f t k e):=fun t k e h1 h2 h4=>zU6 P F j f t k e h1 h2 (by omega)
  have le1:∀t k e,t.steps<=F->(exp shw (P.fuelOf F) f t k e).2.steps<=F:=fun t k e h=>zId (P.fuelOf F) f t k e h
  have fo1:∀t k e,Fo t (exp shw (P.fuelOf F) f t k e).2:=zIe (P.fuelOf F) f
  have fo2:∀t k e,Fo t (exp shw (P.fuelOf (F+j)) f t k e).2:=zIe (P.fuelOf (F+j)) f
  by_cases h0':s.fin≠0
  ·rw[zLb _ (Nat.succ_ne_zero f) h0',zLb _ (Nat.succ_ne_zero f) h0'];exact .same h3
  have h0:s.fin=0:=Decidable.not_not.1 h0'
  by_cases c1:s.steps=F
  ·have ea:exp shw (P.fuelOf F) (f+1) s k e=s.stop 3:=by unfold exp;rw[if_neg (fun h=>h h0),if_pos (show s.steps=(P.fuelOf F).fuel from c1)]
   have hb:=zIe (shw:=shw) (P.fuelOf (F+j)) (f+1) s k e
   rw[ea]
   exact .inr ⟨rfl,rfl,c1,hb.out,by have:=hb.le;omega⟩
  have h1:s.steps+1<=F:=by omega
  have c2:¬s.steps=F+j:=by omega
  have en1:∀{t:S} k e,t.fin≠0->exp shw (P.fuelOf F) f t k e=(.num 0,t):=fun k e h=>zLb _ (by omega) h k e
  conv=>arg 2;unfold exp
  conv=>arg 3;unfold exp
  rw[if_neg h0',if_neg (show ¬s.steps=(P.fuelOf F).fuel from c1),if_neg h0',if_neg (show ¬s.steps=(P.fuelOf (F+j)).fuel from c2)]
  dsimp only
  have hs1:({ s with steps:=s.steps+1 }:S).fin≠3:=h3
  have lt1:s.steps<({ s with steps:=s.steps+1 }:S).steps:=Nat.lt_succ_self _
  have ih1:∀k e,Rr F (exp shw (P.fuelOf F) f { s with steps:=s.steps+1 } k e) (exp shw (P.fuelOf (F+j)) f { s with steps:=s.steps+1 } k e):=fun k e=>ih _ k e hs1 h1 lt1
  have hst:∀k e,s.steps<(exp shw (P.fuelOf F) f { s with steps:=s.steps+1 } k e).2.steps:=fun k e=>qAV lt1 (fo1 _ k e).le
  have hsl:∀k e,(exp shw (P.fuelOf F) f { s with steps:=s.steps+1 } k e).2.steps<=F:=fun k e=>le1 _ k e h1
  simp only[zJn,zMR,zKw]
  show Rr F (if(P.node k).kind=1 then _ else _) (if(P.node k).kind=1 then _ else _)
  refine zFS (fun _=>.same hs1) fun _=>zFS (fun _=>.same hs1) fun _=>zFS (fun _=>.same hs1) fun _=>zFS (fun _=>.same hs1) fun _=>zFS (fun _=>.same hs1) fun _=>zFS (fun _=>?_) fun _=>zFS (fun _=>?_) fun _=>zFS (fun _=>?_) fun _=>zFS (fun _=>?_) fun _=>zFS (fun _=>?_) fun _=>zFS (fun _=>?_) fun _=>?_
  ·refine(ih1 (P.kid k 0) e).bind (K:=fun r=>(exp shw (P.fuelOf F) f r.2 (P.kid k 1) e).2.apply shw (exp shw (P.fuelOf F) f) r.1 (exp shw (P.fuelOf F) f r.2 (P.kid k 1) e).1) (L:=fun r=>(exp shw (P.fuelOf (F+j)) f r.2 (P.kid k 1) e).2.apply shw (exp shw (P.fuelOf (F+j)) f) r.1 (exp shw (P.fuelOf (F+j)) f r.2 (P.kid k 1) e).1) (fun hn=>?_) (fun h3 h1=>?_) ((fo2 _ _ _).trans (zJe fo2 _ _ _))
   ·have hs2:=hst (P.kid k 0) e
    have hl2:=hsl (P.kid k 0) e
    generalize exp shw (P.fuelOf F) f { s with steps:=s.steps+1 } (P.kid k 0) e=r at *
    refine(ih r.2 (P.kid k 1) e hn hl2 hs2).bind (K:=fun q=>q.2.apply shw (exp shw (P.fuelOf F) f) r.1 q.1) (L:=fun q=>q.2.apply shw (exp shw (P.fuelOf (F+j)) f) r.1 q.1) (fun hn=>?_) (fun h3 h1=>?_) (zJe fo2 _ _ _)
    ·exact zUA (fun k' e'=>ih _ k' e' hn (le1 _ _ _ hl2) (qAV hs2 (fo1 _ _ _).le)) _ _ hn
    ·(try dsimp only);unfold S.apply;rw[if_pos (by rw[h3];decide),h1]
   ·try dsimp only
    rw[en1 _ _ (by rw[h3];decide)]
    (try dsimp only);unfold S.apply;rw[if_pos (by rw[h3];decide)]
  ·refine(ih1 (P.kid k 0) e).bind (K:=fun r=>exp shw (P.fuelOf F) f r.2 (P.kid k 1) (.cons (P.node k).text r.1 e)) (L:=fun r=>exp shw (P.fuelOf (F+j)) f r.2 (P.kid k 1) (.cons (P.node k).text r.1 e)) (fun hn=>?_) (fun h3 h1=>?_) (fo2 _ _ _)
   ·exact ih _ _ _ hn (hsl _ _) (hst _ _)
   ·exact en1 _ _ (by rw[h3];decide)
  ·have c3:¬s.steps+1=F+j\/s.steps+1=F:=by omega
   by_cases c4:s.steps+1=F
   ·rw[if_pos (show s.steps+1=(P.fuelOf F).fuel from c4)]
    refine .inr ⟨rfl,rfl,c4,?_,?_⟩
    ·split
     ·exact qAe
     ·exact(fo2 { s with steps:=s.steps+1+1 } _ _).out
    ·split
     ·show F<=s.steps+1;omega
     ·have:=(fo2 { s with steps:=s.steps+1+1 } (P.kid k 1) (.cons (P.node k).text (.fn (P.node (P.kid k 0)).text (P.kid k 0+1) (P.node k).text e) e)).le
      refine qAi ?_ this
      show F<=s.steps+1+1;omega
   ·rw[if_neg (show ¬s.steps+1=(P.fuelOf F).fuel from c4),if_neg (show ¬s.steps+1=(P.fuelOf (F+j)).fuel from c3.resolve_right c4)]
    exact ih _ _ _ h3 (by show s.steps+1+1<=F;omega) (by show s.steps<s.steps+1+1;omega)
  ·refine(ih1 (P.kid k 0) e).bind (K:=fun r=>if r.2.fin≠0 then(.num 0,r.2)else match r.1 with
     | .num x=>if x=0 then exp shw (P.fuelOf F) f r.2 (P.kid k 2) e else exp shw (P.fuelOf F) f r.2 (P.kid k 1) e
     |_=>r.2.stop 4) (L:=fun r=>if r.2.fin≠0 then(.num 0,r.2)else match r.1 with
     | .num x=>if x=0 then exp shw (P.fuelOf (F+j)) f r.2 (P.kid k 2) e else exp shw (P.fuelOf (F+j)) f r.2 (P.kid k 1) e
     |_=>r.2.stop 4) (fun hn=>?_) (fun h3 h1=>?_) ?_
   ·have hs2:=hst (P.kid k 0) e
    have hl2:=hsl (P.kid k 0) e
    generalize exp shw (P.fuelOf F) f { s with steps:=s.steps+1 } (P.kid k 0) e=r at *
    refine zFS (fun _=>.same hn) fun _=>?_
    split
    ·exact zFS (fun _=>ih _ _ _ hn hl2 hs2) fun _=>ih _ _ _ hn hl2 hs2
    ·exact .same (show (4:Int)≠3 by decide)
   ·(try dsimp only);rw[if_pos (by rw[h3];decide)]
   ·try dsimp only
    split
    ·exact .rfl' _
    ·split
     ·split <;> exact fo2 _ _ _
     ·exact .of rfl rfl
  ·refine(ih1 (P.kid k 0) e).bind (K:=fun r=>if r.2.fin≠0 then(.num 0,r.2)else match r.1 with
     | .num x=>r.2.raise x
     |_=>r.2.stop 4) (L:=fun r=>if r.2.fin≠0 then(.num 0,r.2)else match r.1 with
     | .num x=>r.2.raise x
     |_=>r.2.stop 4) (fun hn=>?_) (fun h3 h1=>?_) ?_
   ·refine zFS (fun _=>.same hn) fun _=>?_
    split
    ·exact .same (show (2:Int)≠3 by decide)
    ·exact .same (show (4:Int)≠3 by decide)
   ·(try dsimp only);rw[if_pos (by rw[h3];decide)]
   ·try dsimp only
    split
    ·exact .rfl' _
    ·split <;> exact .of rfl rfl
  ·refine(ih1 (P.kid k 0) e).bind (K:=fun r=>if r.2.fin≠2 then r else exp shw (P.fuelOf F) f { r.2 with fin:=0 } (P.kid k 1) (.cons (P.node k).text (.num r.2.raised) e)) (L:=fun r=>if r.2.fin≠2 then r else exp shw (P.fuelOf (F+j)) f { r.2 with fin:=0 } (P.kid k 1) (.cons (P.node k).text (.num r.2.raised) e)) (fun hn=>?_) (fun h3 h1=>?_) ?_
   ·refine zFS (fun _=>.same hn) fun _=>?_
    exact ih _ _ _ (show (0:Int)≠3 by decide) (hsl _ _) (hst _ _)
   ·(try dsimp only);rw[if_pos (by rw[h3];decide)]
    exact Prod.ext h1 rfl
   ·try dsimp only
    split
    ·exact .rfl' _
    ·refine Fo.trans ?_ (fo2 _ _ _)
     exact .of rfl rfl
  ·refine(ih1 (P.kid k 0) e).bind (K:=fun r=>if r.2.fin≠0 then r else r.2.arms (exp shw (P.fuelOf F) f) (mat P P.deep) P k r.1 e (((P.node k).kids-1) / 2) 1) (L:=fun r=>if r.2.fin≠0 then r else r.2.arms (exp shw (P.fuelOf (F+j)) f) (mat P P.deep) P k r.1 e (((P.node k).kids-1) / 2) 1) (fun hn=>?_) (fun h3 h1=>?_) ?_
   ·refine zFS (fun _=>.same hn) fun _=>?_
    exact zSl (fun k' e'=>ih _ _ _ hn (hsl _ _) (hst _ _)) _ _ _ _ _ _ _
   ·(try dsimp only);rw[if_pos (by rw[h3];decide)]
    exact Prod.ext h1 rfl
   ·try dsimp only
    split
    ·exact .rfl' _
    ·exact zLo fo2 _ _ _ _ _ _ _ _
theorem zLX(P:Pg)(F j:Nat): ((seen shw (P.fuelOf F)).fin≠3->seen shw (P.fuelOf (F+j))=seen shw (P.fuelOf F)/\(seen shw (P.fuelOf F)).steps<=F)/\
  ((seen shw (P.fuelOf F)).fin=3->(seen shw (P.fuelOf F)).steps=F/\(seen shw (P.fuelOf F)).out <+: (seen shw (P.fuelOf (F+j))).out/\(seen shw (P.fuelOf F)).vals=[]):=by
 have h:=zU6 (shw:=shw) P F j (F+j+1) start 0 .nil (by decide) (qAR _) (by show F+j<F+j+1+0;omega)
 have hd:exp shw (P.fuelOf F) (F+1) start 0 .nil=exp shw (P.fuelOf F) (F+j+1) start 0 .nil:=by
  rw[show F+j+1=F+1+j by omega]
  exact zRj (P.fuelOf F) j (F+1) start 0 .nil (qAR _) (by show F<F+1+0;omega)
 have hl:=zId (shw:=shw) (P.fuelOf F) (F+1) start 0 .nil (qAR _)
 have e1:∀n,seen shw (P.fuelOf n)=let r:=exp shw (P.fuelOf n) (n+1) start 0 .nil;if r.2.fin=0 then⟨1,if(sh [] r.1).length<=4000 then sh [] r.1 else[],0,r.2.out,r.2.steps⟩else⟨r.2.fin,[],if r.2.fin=2 then r.2.raised else 0,r.2.out,r.2.steps⟩:=fun n=>rfl
 rw[e1,e1,hd]
 rw[hd]at hl
 generalize exp shw (P.fuelOf F) (F+j+1) start 0 .nil=a at *
 generalize exp shw (P.fuelOf (F+j)) (F+j+1) start 0 .nil=b at *
 change a.2.steps<=F at hl
 dsimp only
 have hst:∀(r:V×S),(if r.2.fin=0 then(⟨1,if(sh [] r.1).length<=4000 then sh [] r.1 else[],0,r.2.out,r.2.steps⟩:Sn)else⟨r.2.fin,[],if r.2.fin=2 then r.2.raised else 0,r.2.out,r.2.steps⟩).steps=r.2.steps:=fun r=>by split <;> rfl
 have hou:∀(r:V×S),(if r.2.fin=0 then(⟨1,if(sh [] r.1).length<=4000 then sh [] r.1 else[],0,r.2.out,r.2.steps⟩:Sn)else⟨r.2.fin,[],if r.2.fin=2 then r.2.raised else 0,r.2.out,r.2.steps⟩).out=r.2.out:=fun r=>by split <;> rfl
 rcases h with⟨h,e⟩|⟨h,e,hs,ho,hl'⟩
 ·subst e
  refine⟨fun _=>⟨rfl,by rw[hst];omega⟩,fun h3=>?_⟩
  split at h3
  ·exact absurd (show (1:Int)=3 from h3) (by decide)
  ·exact absurd h3 h
 ·refine⟨fun h3=>?_,fun _=>⟨by rw[hst];omega,by rw[hou,hou];exact ho,?_⟩⟩
  ·rw[if_neg (by rw[h];decide)]at h3;exact absurd h h3
  ·rw[if_neg (by rw[h];decide)]
