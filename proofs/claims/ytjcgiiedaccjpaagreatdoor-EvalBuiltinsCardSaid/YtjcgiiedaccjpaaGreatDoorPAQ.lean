/- Parts. -/
import Derived.Test.YtjcgiiedaccjpaaGreatDoorPAK
import Derived.Test.YtjcgiiedaccjpaaGreatDoorPAL
set_option maxHeartbeats 16000000
namespace Go.Proofs.YtjcgiiedaccjpaaGreatDoor
open _root_.Go.Proofs.Tryz
open Go.Sx
theorem zaH: zAQ prog 131=true:=by kernel_rfl
theorem zSY: zAQ prog 132=true:=by kernel_rfl
theorem zTw{C:Ctx}{σ:Sl}{η:List Ob}{g:Gh}{a:Act}{w w':World}(h:AbsG C g σ η a w){id e sz:Nat}{xs:List D}{o':Ob}(hid:η[id]?=some (.buf true e sz xs))(hro:C.ro<=id)
  (os:w'.os=w.os) (tape:w'.tape=w.tape) (output:w'.output=w.output) (size:w.heap.size<=w'.heap.size) (heap:∀k,k<w.heap.size->g.blk id≠some k->w'.heap[k]?=w.heap[k]?) (ok:ObOk g w' id o') :
  AbsG C g σ (η.set id o') a w':=by
 have hidl:id<η.length:=(qAA.1 hid).1
 obtain⟨o1,o2,o3,o4,o5⟩:=h.inv.ob id _ hid
 have hst:∀b o,g.St b o->g.blk id≠some b:=fun b o ho hb=>by
  rcases o5 with⟨h1,_⟩|⟨b',us,h1,_,_,_,_,h3⟩
  ·rw[h1]at hb;cases hb
  ·rw[h1]at hb;injection hb with hb;subst hb
   exact absurd ((h3 o).1 ho).1 sI
 have kp:Keep g.St w g.St w':=⟨fun _ _ h=>h,fun c o u hc hu=>(World.cell?_of_block (a:=⟨c,o,none⟩) (heap c (h.inv.st c o hc) (hst c o hc))).trans hu,fun c hc=>heap c (h.inv.st c 0 (hc 0)) (hst c 0 (hc 0))⟩
 have rk:∀{v:Value} {s:SV},RepS g w v s->RepS g w' v s:=fun r=>r.ext kp (fun _ _=>⟨rfl,rfl,rfl⟩) (qAN _)
 refine⟨h.defers,h.size,⟨by rw[qAv];exact h.inv.n,fun i c hc=>qAc (h.inv.lt i c hc) size,h.inv.dead,h.inv.inj,fun i o ho=>?_,fun c o hc=>qAc (h.inv.st c o hc) size,h.inv.gl.keep kp⟩,os.trans h.os,tape.trans h.tape,output.trans h.output,qAx h.wsize size,fun k hk hx=>?_,h.keep.trans kp,h.new,h.own,fun t=>rk (h.rep t)⟩
 ·rw[qAh]at ho
  split at ho
  ·rename_i hii;subst hii
   injection ho with ho;subst ho;exact ok
  ·rename_i hii
   exact(h.inv.ob i o ho).ext kp (fun _ _=>⟨rfl,rfl,rfl⟩) (qAN _) (by rw[h.inv.n];exact(qAA.1 ho).1) (fun c hcb=>⟨heap c (h.inv.lt i c hcb) (fun e=>hii (h.inv.inj id i c e hcb)),fun _=>Iff.rfl⟩)
 ·rw[heap k (qAc hk h.wsize) (fun e=>?_)]
  ·exact h.heap k hk hx
  ·rcases h.own id k e hro with h1|h1
   ·omega
   ·exact hx h1
theorem zcF{C:Ctx}{ops:Array Oper}{rest:List Oper}{K:Sl->List Ob->Prop}{σ:Sl}{η:List Ob}{d:Nat}{ty:TypeId}{pos:String}{after:Array Edge}{gd:Option (Nat×Bool)}{ts:Array TypeId}{x:Operand}{id n e:Nat}{L:List (List UInt8)}(hP:C.P=prog)
  (hx:oval σ x=.buf id n) (ho:η[id]?=some (.buf true e 1 (L.map str))) (hn:n=L.length) (hd:Nat.blt d C.N=true) (hro:Nat.ble C.ro id=true) (hbd:L.length<=2000000)
  (h:alex C false ops rest K ((d,.top)::σ) (η.set id (.buf true e 1 ((srtT L).map str)))) :
  zBJ C false ops ⟨some d,.call ⟨.value (.func 131), #[x],ts⟩,ty,pos,after,gd⟩ rest K σ η:=by
 intro Q hQ a w ⟨g,hg⟩ K' hK'
 have e1:=hg.eval x;rw[hx]at e1
 obtain⟨_,e1⟩:=e1
 rw[hn]at e1
 unfold Oper.wp
 have hrun:(execOp a.eval ⟨some d,.call ⟨.value (.func 131), #[x],ts⟩,ty,pos,after,gd⟩).run C.P w=.ok (.enter 131 #[a.eval x]) w:=by
  simp only[execOp,resolve,Act.eval,Deferred.ofValue,invoke,Sem.run_bind,Sem.run_pure,Result.andThen_ok,qA4,qBW,qBq]
  rw[hP]
  exact zDG zaH
 rw[hrun,Oper.upon_enter,e1,hP]
 refine(zPb g w id e L hbd (hg.inv.ob id _ ho) hg.inv.st).mono fun e' w' ⟨he,q1,q2,q3,q4,q5,q6⟩=>?_
 subst he
 have h1:=zTw hg ho (qAM hro) q1 q2 q3 q4 q5 q6
 exact hK' _ _ (h Q hQ _ w' ⟨g,h1.put (d:=some d) (s:=.top) hd trivial⟩)
def cmpT(L:List (List UInt8)): List (List UInt8):=Go.Lib.compact L++List.replicate (L.length-(Go.Lib.compact L).length) []
theorem zWF{C:Ctx}{ops:Array Oper}{rest:List Oper}{K:Sl->List Ob->Prop}{σ:Sl}{η:List Ob}{d:Nat}{ty:TypeId}{pos:String}{after:Array Edge}{gd:Option (Nat×Bool)}{ts:Array TypeId}{x:Operand}{id n e:Nat}{L:List (List UInt8)}(hP:C.P=prog)
  (hx:oval σ x=.buf id n) (ho:η[id]?=some (.buf true e 1 (L.map str))) (hn:n=L.length) (hd:Nat.blt d C.N=true) (hro:Nat.ble C.ro id=true) (hbd:L.length<=2000000)
  (h:alex C false ops rest K ((d,.buf id (Go.Lib.compact L).length)::σ) (η.set id (.buf true e 1 ((cmpT L).map str)))) :
  zBJ C false ops ⟨some d,.call ⟨.value (.func 132), #[x],ts⟩,ty,pos,after,gd⟩ rest K σ η:=by
 intro Q hQ a w ⟨g,hg⟩ K' hK'
 have e1:=hg.eval x;rw[hx]at e1
 obtain⟨hid,e1⟩:=e1
 rw[hn]at e1
 unfold Oper.wp
 have hrun:(execOp a.eval ⟨some d,.call ⟨.value (.func 132), #[x],ts⟩,ty,pos,after,gd⟩).run C.P w=.ok (.enter 132 #[a.eval x]) w:=by
  simp only[execOp,resolve,Act.eval,Deferred.ofValue,invoke,Sem.run_bind,Sem.run_pure,Result.andThen_ok,qA4,qBW,qBq]
  rw[hP]
  exact zDG zSY
 rw[hrun,Oper.upon_enter,e1,hP]
 cases hb:g.blk id with
 |none =>
  have hL:L=[]:=by
   obtain⟨o1,o2,o3,o4,o5⟩:=hg.inv.ob id _ ho
   rcases o5 with⟨_,o5⟩|⟨b',us,hb',_⟩
   ·rw[qAE]at o4;exact qAf oM
   ·rw[hb]at hb';cases hb'
  subst hL
  refine(zO1 none (g.cap id) w).mono ?_
  rintro e' w' ⟨rfl,rfl⟩
  have hs:η.set id (.buf true e 1 ((cmpT []).map str))=η:=by
   refine qBk fun i=>?_
   rw[qAh]
   split
   ·rename_i hi;subst hi;rw[if_pos (qAA.1 ho).1,ho];rfl
   ·rfl
  rw[hs]at h
  exact hK' _ _ (h Q hQ _ _ ⟨g,hg.put (d:=some d) (s:=.buf id _) hd ⟨hid,by rw[hb];rfl⟩⟩)
 |some b =>
  rw[<-hb]
  refine(zLZ g w id e b L hbd (hg.inv.ob id _ ho) hb hg.inv.st).mono fun e' w' ⟨he,q1,q2,q3,q4,q5,q6⟩=>?_
  subst he
  have h1:=zTw hg ho (qAM hro) q1 q2 q3 q4 q5 q6
  exact hK' _ _ (h Q hQ _ w' ⟨g,h1.put (d:=some d) (s:=.buf id _) hd ⟨hid,rfl⟩⟩)
attribute [local irreducible] zAQ Program.underlying Ylds zBJ alex zBk zBZ awp zAX FCall zBo zBR zBX zBb zBD zBd zBj zBn zBu zBP VCall
theorem zHa{L:List Nd}{i:Nat}{v:Nd}(h:L[i]?=some v): zBf (L.take (i+1))=zBf (L.take i)++(if v.kind=22 then[v.text]else[]):=by
 unfold zBf
 rw[qAu,h,List.filterMap_append]
 congr 1
 by_cases hk:v.kind=22 <;> simp[hk]
theorem zFu(L:List Nd): (zBf L).length<=L.length:=List.length_filterMap_le _ _
theorem zQz{L:List Nd}(i:Nat)(h:L.length<=2000000): (zBf (L.take i)).length<=2000000:=by
 have:=zFu (L.take i)
 rw[qAU]at this;omega
theorem zNs(L:List Nd)(hL:L.length<=2000000): zAX prog 130 [zAu L] (strs (zBf L)):=by
 refine zAc func130 rfl ntmps130 results130 rfl ?_
 intro wb St0
 repeat' first|apply en_n|apply zAE|apply zAA|apply zAD|apply w0|refine ayA rfl ?_|apply zAH
 refine zEd 3 false 9 1 rfl rfl ?_
 refine zAt (α:=Nat) (fun i=>i<=L.length) (fun i=>[(3,.buf 0 ((zBf (L.take i)).map str).length),(6,.d (zAu L)),(7,.d (i64 (L.length:Int))),(8,.d (i64 (i:Int)))]) (fun i=>[.buf false 9 1 ((zBf (L.take i)).map str)]) (fun i=>L.length-i) 0 (qAO _)
  (zAV (zCR rfl rfl (Le_cons rfl (Le_d rfl rfl (Le_all rfl)))) (zBa rfl rfl rfl zAW) rfl rfl) ?_
 intro i hi
 repeat' first|apply en_n|apply zAE|apply zAA|apply zAD|apply w0|(apply aI (hd:=rfl);(first|exact zAr rfl|exact Co_bb rfl rfl rfl|exact Co_nn rfl);exact rfl;(with_reducible exact zAe);exact fun _=>rfl;rotate_left;intro v hv;rotate_right)|(apply aApp (hd:=rfl) (hro:=rfl);exact rfl;exact rfl;(first|exact zAr rfl|exact Co_bb rfl rfl rfl|exact Co_nn rfl);(first|exact rfl|(simp;done));exact rfl;(with_reducible first|exact zBL|exact zBL);(with_reducible first|exact zA6|exact zA6);(with_reducible first|exact zDe|exact zDe);(with_reducible first|exact zCx|exact zCx);(first|exact zCe (fun _=>rfl)|exact zDP rfl))|refine aAlA ?_|refine ayA rfl ?_|refine ayL rfl ?_|apply ay (hd:=rfl)|exact zCt rfl rfl|exact zDz rfl rfl|refine zBN rfl rfl ?_|(refine w0' ?_)|refine aStA ?_|(apply zA3;exact rfl;all_goals intro hb)|apply zAH|apply zAM|apply zAN|apply zAz|apply en_e|apply eb_n|apply eb_e|apply zAO|(apply zIU;exact rfl;exact rfl;(first|exact rfl|(simp;done)))
 all_goals try omega
 ·have:=zQz (L:=L) i hL;simp only[qAE,qAK,qAb];omega
 ·have e:zBf (L.take (i+1))=zBf (L.take i)++[v.text]:=by rw[zHa (i:=i) hv,if_pos hb]
  exact⟨i+1,by omega,by omega,zAV (zCR rfl (by rw[e];simp) (Le_all rfl)) (zBa rfl rfl (by rw[e,qAZ];rfl) zAW) rfl rfl⟩
 ·have e:zBf (L.take (i+1))=zBf (L.take i):=by rw[zHa (i:=i) hv,if_neg hb,qA0]
  exact⟨i+1,by omega,by omega,zAV (zCR rfl (by rw[e]) (Le_all rfl)) (zBa rfl rfl (by rw[e]) zAW) rfl rfl⟩
 ·have e:L.take i=L:=qAe oM
  rw[e];rfl
theorem zSA(L:List Nd)(hL:L.length<=2000000): FCall prog 130 [zAu L] (zBf L).length 9 1 ((zBf L).map str):=by
 refine zGI func130 rfl ntmps130 results130 rfl (zCe fun _=>rfl) ?_
 intro wb St0
 repeat' first|apply en_n|apply zAE|apply zAA|apply zAD|apply w0|refine ayA rfl ?_|apply zAH
 refine zEd 3 true 9 1 rfl rfl ?_
 refine zAt (α:=Nat) (fun i=>i<=L.length) (fun i=>[(3,.buf 0 ((zBf (L.take i)).map str).length),(6,.d (zAu L)),(7,.d (i64 (L.length:Int))),(8,.d (i64 (i:Int)))]) (fun i=>[.buf true 9 1 ((zBf (L.take i)).map str)]) (fun i=>L.length-i) 0 (qAO _)
  (zAV (zCR rfl rfl (Le_cons rfl (Le_d rfl rfl (Le_all rfl)))) (zBa rfl rfl rfl zAW) rfl rfl) ?_
 intro i hi
 repeat' first|apply en_n|apply zAE|apply zAA|apply zAD|apply w0|(apply aI (hd:=rfl);(first|exact zAr rfl|exact Co_bb rfl rfl rfl|exact Co_nn rfl);exact rfl;(with_reducible exact zAe);exact fun _=>rfl;rotate_left;intro v hv;rotate_right)|(apply aApp (hd:=rfl) (hro:=rfl);exact rfl;exact rfl;(first|exact zAr rfl|exact Co_bb rfl rfl rfl|exact Co_nn rfl);(first|exact rfl|(simp;done));exact rfl;(with_reducible first|exact zBL|exact zBL);(with_reducible first|exact zA6|exact zA6);(with_reducible first|exact zDe|exact zDe);(with_reducible first|exact zCx|exact zCx);(first|exact zCe (fun _=>rfl)|exact zDP rfl))|refine aAlA ?_|refine ayA rfl ?_|refine ayL rfl ?_|apply ay (hd:=rfl)|exact zCt rfl rfl|exact zDz rfl rfl|refine zBN rfl rfl ?_|(refine w0' ?_)|refine aStA ?_|(apply zA3;exact rfl;all_goals intro hb)|apply zAH|apply zAM|apply zAN|apply zAz|apply en_e|apply eb_n|apply eb_e
 all_goals try omega
 ·have:=zQz (L:=L) i hL;simp only[qAE,qAK,qAb];omega
 ·have e:zBf (L.take (i+1))=zBf (L.take i)++[v.text]:=by rw[zHa (i:=i) hv,if_pos hb]
  exact⟨i+1,by omega,by omega,zAV (zCR rfl (by rw[e];simp) (Le_all rfl)) (zBa rfl rfl (by rw[e,qAZ];rfl) zAW) rfl rfl⟩
 ·have e:zBf (L.take (i+1))=zBf (L.take i):=by rw[zHa (i:=i) hv,if_neg hb,qA0]
  exact⟨i+1,by omega,by omega,zAV (zCR rfl (by rw[e]) (Le_all rfl)) (zBa rfl rfl (by rw[e]) zAW) rfl rfl⟩
 ·have e:L.take i=L:=qAe oM
  rw[e]
  exact zFG ⟨_,rfl,.inr ⟨0,by show SV.buf 0 ((zBf L).map str).length=_;rw[qAE],rfl⟩⟩
theorem zTt(L:List Nd)(hL:L.length<=2000000): zAX prog 133 [zAu L] (i64 ((zBf L).length:Int)):=by
 refine zAc func133 rfl ntmps133 results133 rfl ?_
 intro wb St0
 repeat' first|apply en_n|apply zAE|apply zAA|apply zAD|apply w0|exact ycA zKw (zNs L hL)|refine ayA rfl ?_|apply ay (hd:=rfl)|apply zAN|apply zAO|refine res1 rfl ?_
 rfl
abbrev lO(L:List Nd): List Ob:=[.box [.d (zAu L)]]
theorem zal(N:List (List UInt8)): decide ((((Go.Lib.compact (srtT N)).length:Nat):Int)<((N.length:Nat):Int)) = !decide N.Nodup:=by
 have h1:=zP8 (zPa N)
 rw[(zIP N).length_eq,(zIP N).nodup_iff]at h1
 by_cases h:N.Nodup
 ·have h2:¬(Go.Lib.compact (srtT N)).length<N.length:=fun c=>h1.1 c h
  rw[decide_eq_true h,Bool.not_true,decide_eq_false_iff_not];omega
 ·have h2:=h1.2 h
  rw[decide_eq_false h,Bool.not_false,decide_eq_true_eq];omega
theorem zSD(L:List Nd)(n:Nat)(t:Tr)(h:At L n t)(hL:L.length<=2000000):
  zBX prog 128 [.d (i64 (n:Int)),.ptr 0 0] (lO L) (bl (!decide (zBf t.fl).Nodup)):=by
 have hS:=zcW L (n:Int) hL
 rw[h.sub,subE,if_neg (by rw[h.endF];omega)]at hS
 have hl:=h.len
 rw[<-Tr.fl_len]at hl
 have hN:=zSA t.fl oM
 have hC:=zTt t.fl oM
 have hnl:=zFu t.fl
 rw[<-zal]
 have hsl:=(zIP (zBf t.fl)).length_eq
 generalize zBf t.fl=N at *
 refine zDS func128 rfl ntmps128 results128 rfl ?_
 intro wb St0
 exact ye
end Go.Proofs.YtjcgiiedaccjpaaGreatDoor
namespace Go.Ev
mutual
inductive V where
 |num (n:Int)
 |text (t:List UInt8)
 |con (name:List UInt8) (need:Nat) (args:List V)
 |prim (p:Nat) (args:List V)
 |fn (name:List UInt8) (at_:Nat) (self:List UInt8) (env:Env)
 |cell (i:Nat)
inductive Env where
 |nil
 |cons (name:List UInt8) (v:V) (up:Env)
end
instance:Inhabited V:=⟨.num 0⟩
instance:Inhabited Env:=⟨.nil⟩
structure Pn where
 kind:Int
 text:List UInt8
 num:Int
 kids:Nat
structure Pg where
 node:Nat->Pn
 kid:Nat->Nat->Nat
 need:List UInt8->Nat
 name:List UInt8->Nat
 deep:Nat
 fuel:Nat
structure S where
 steps:Nat
 out:List (List UInt8)
 cells:List V
 fin:Int
 raised:Int
def Wn(n:Int): Int:=(n+4611686018427387904)%9223372036854775808-4611686018427387904
def S.stop(s:S)(e:Int): V×S:=(.num 0,{ s with fin:=e })
def S.raise(s:S)(n:Int): V×S:=(.num 0,{ s with raised:=n,fin:=2 })
def S.put(s:S)(t:List UInt8): S:={ s with out:=s.out++[t] }
def bit(p:Prop)[Decidable p]: V:=.num (if p then 1 else 0)
def pneed(p:Nat): Nat:=if p=8\/p=9\/p=10\/p=12\/p=13 then 1 else if p<14 then 2 else 0
def S.ints(s:S)(p:Nat)(a b:Int): V×S :=
 if p=0 then(.num (Wn (a+b)),s)else if p=1 then(.num (Wn (a-b)),s)else if p=2 then(.num (Wn (a*b)),s)
 else if p=3 then(if Wn b=0 then s.raise (-2)else(.num (Wn ((Wn a).tdiv (Wn b))),s))
 else if p=4 then(if Wn b=0 then s.raise (-2)else(.num ((Wn a).tmod (Wn b)),s))
 else if p=5 then(bit (a=b),s)
 else(bit (a<b),s)
def S.doP(shw:Int->List UInt8)(s:S)(p:Nat)(l:List V): V×S :=
 let a:=l.getD 0 default
 let b:=l.getD 1 default
 if p<7 then(match a,b with
  | .num x,.num y=>s.ints p x y
  |_,_=>s.stop 4)
 else if p=7 then(match a,b with
  | .text x,.text y=>if x.length+y.length>200 then s.raise (-3)else(.text (x++y),s)
  |_,_=>s.stop 4)
 else if p=8 then(match a with
  | .text x=>(.num x.length,s)
  |_=>s.stop 4)
 else if p=9 then(.cell s.cells.length,{ s with cells:=s.cells++[a] })
 else if p=10 then(match a with
  | .cell i=>(s.cells.getD i default,s)
  |_=>s.stop 4)
 else if p=11 then(match a with
  | .cell i=>(.num 0,{ s with cells:=s.cells.set i b })
  |_=>s.stop 4)
 else if p=12 then(match a with
  | .num x=>(.num x,s.put (shw x))
  |_=>s.stop 4)
 else(match a with
  | .text x=>(.num 0,s.put x)
  |_=>s.stop 4)
def told(P:Pg)(s:List UInt8): Env->V
 | .nil=>.prim (P.name s) []
 | .cons n v up=>if n=s then v else told P s up
def S.apply(shw:Int->List UInt8)(ex:S->Nat->Env->V×S)(s:S)(f a:V): V×S :=
 if s.fin≠0 then(a,s)else match f with
 | .fn n k self env=>ex s k (.cons n a (if self=[]then env else .cons self f env))
 | .prim p args=>if args.length+1=pneed p then s.doP shw p (args++[a])else(.prim p (args++[a]),s)
 | .con n need args=>if args.length<need then(.con n need (args++[a]),s)else s.stop 4
 |_=>s.stop 4
def matK(P:Pg)(mt:Nat->V->Env->Option Env)(at_:Nat): Nat->List V->Env->Option Env
 |_,[],e=>some e
 |j,v::r,e=>match mt (P.kid at_ j) v e with
  |none=>none
  |some e=>matK P mt at_ (j+1) r e
def mat(P:Pg): Nat->Nat->V->Env->Option Env
 |0,_,_,_=>none
 |f+1,k,v,e =>
  let n:=P.node k
  if n.kind=21 then some e
  else if n.kind=22 then some (.cons n.text v e)
  else if n.kind=23 then(match v with
   | .num x=>if x=n.num then some e else none
   |_=>none)
  else match v with
   | .con m need args=>if m=n.text/\args.length=need/\need=n.kids then matK P (mat P f) k 0 args e else none
   |_=>none
def S.arms(ex:S->Nat->Env->V×S)(mt:Nat->V->Env->Option Env)(P:Pg)(s:S)(at_:Nat)(v:V)(e:Env): Nat->Nat->V×S
 |0,_=>s.raise (-1)
 |c+1,i=>match mt (P.kid at_ i) v e with
  |some e=>ex s (P.kid at_ (i+1)) e
  |none=>arms ex mt P s at_ v e c (i+2)
def exp(shw:Int->List UInt8)(P:Pg): Nat->S->Nat->Env->V×S
 |0,s,_,_=>s.stop 3
 |f+1,s,k,env =>
  if s.fin≠0 then(.num 0,s)
  else if s.steps=P.fuel then s.stop 3
  else
   let s:={ s with steps:=s.steps+1 }
   let n:=P.node k
   let ex:=exp shw P f
   if n.kind=1 then(.num n.num,s)
   else if n.kind=2 then(.text n.text,s)
   else if n.kind=3 then(told P n.text env,s)
   else if n.kind=4 then(.con n.text (P.need n.text) [],s)
   else if n.kind=5 then(.fn n.text (P.kid k 0) [] env,s)
   else if n.kind=6 then
    let r:=ex s (P.kid k 0) env
    let q:=ex r.2 (P.kid k 1) env
    q.2.apply shw ex r.1 q.1
   else if n.kind=7 then
    let r:=ex s (P.kid k 0) env
    ex r.2 (P.kid k 1) (.cons n.text r.1 env)
   else if n.kind=8 then
    if s.steps=P.fuel then s.stop 3
    else ex { s with steps:=s.steps+1 } (P.kid k 1) (.cons n.text (.fn (P.node (P.kid k 0)).text (P.kid k 0+1) n.text env) env)
   else if n.kind=9 then
    let r:=ex s (P.kid k 0) env
    if r.2.fin≠0 then(.num 0,r.2)else match r.1 with
     | .num x=>if x=0 then ex r.2 (P.kid k 2) env else ex r.2 (P.kid k 1) env
     |_=>r.2.stop 4
   else if n.kind=11 then
    let r:=ex s (P.kid k 0) env
    if r.2.fin≠0 then(.num 0,r.2)else match r.1 with
     | .num x=>r.2.raise x
     |_=>r.2.stop 4
   else if n.kind=12 then
    let r:=ex s (P.kid k 0) env
    if r.2.fin≠2 then r else ex { r.2 with fin:=0 } (P.kid k 1) (.cons n.text (.num r.2.raised) env)
   else
    let r:=ex s (P.kid k 0) env
    if r.2.fin≠0 then r else r.2.arms ex (mat P P.deep) P k r.1 env ((n.kids-1) / 2) 1
structure Nn where
 kind:Int
 text:List UInt8
 num:Int
 kids:Int
 deriving Inhabited,DecidableEq
def node(l:List Nn)(n:Nn): List Nn:=if 4000<l.length then l else l++[n]
mutual
def sh(l:List Nn): V->List Nn
 | .num n=>node l ⟨51,[],n,0⟩
 | .text t=>node l ⟨52,t,0,0⟩
 | .con n need args=>if args.length<need then node l ⟨54,[],0,0⟩else shs (node l ⟨53,n,0,need⟩) args
 | .prim _ _=>node l ⟨54,[],0,0⟩
 | .fn _ _ _ _=>node l ⟨54,[],0,0⟩
 | .cell _=>node l ⟨54,[],0,0⟩
def shs(l:List Nn): List V->List Nn
 |[]=>l
 |v::r=>shs (if 4000<l.length then l else sh l v) r
end
def start: S:=⟨0,[],[],0,0⟩
structure Sn where
 fin:Int
 vals:List Nn
 num:Int
 out:List (List UInt8)
 steps:Int
def seen(shw:Int->List UInt8)(P:Pg): Sn :=
 let r:=exp shw P (P.fuel+1) start 0 .nil
 if r.2.fin=0 then⟨1,if(sh [] r.1).length<=4000 then sh [] r.1 else[],0,r.2.out,r.2.steps⟩
 else⟨r.2.fin,[],if r.2.fin=2 then r.2.raised else 0,r.2.out,r.2.steps⟩
variable {shw:Int->List UInt8}
end Go.Ev
namespace Go.Ev
variable {shw:Int->List UInt8}
theorem zZ1(s:S)(p:Nat)(a b:Int): (s.ints p a b).2.steps=s.steps:=by
 unfold S.ints
 repeat' split
 all_goals rfl
theorem zb5(s:S)(p:Nat)(l:List V): (s.doP shw p l).2.steps=s.steps:=by
 unfold S.doP;dsimp only
 repeat' split
 all_goals first|exact zZ1 s p _ _|rfl
theorem zYF{P:Pg}{ex:S->Nat->Env->V×S}(h:∀s k e,s.steps<=P.fuel->(ex s k e).2.steps<=P.fuel)(s:S)(f a:V)(hs:s.steps<=P.fuel): (s.apply shw ex f a).2.steps<=P.fuel:=by
 unfold S.apply
 split
 ·exact hs
 ·split
  ·exact h _ _ _ hs
  ·split
   ·rw[zb5];exact hs
   ·exact hs
  ·split <;> exact hs
  ·exact hs
theorem zV1{P Q:Pg}{ex:S->Nat->Env->V×S}(h:∀s k e,s.steps<=P.fuel->(ex s k e).2.steps<=P.fuel)(mt:Nat->V->Env->Option Env)(s:S)(k:Nat)(v:V)(e:Env)(hs:s.steps<=P.fuel): ∀c i,(s.arms ex mt Q k v e c i).2.steps<=P.fuel
 |0,_=>hs
 |c+1,i=>by
  unfold S.arms
  split
  ·exact h _ _ _ hs
  ·exact zV1 h mt s k v e hs c (i+2)
theorem zGc{n:Nat}{p:Prop}[Decidable p]{a b:V×S}(ha:p->a.2.steps<=n)(hb:¬p->b.2.steps<=n): (if p then a else b).2.steps<=n:=by split <;> rename_i h;exact ha h;exact hb h
theorem zYs(P:Pg): ∀f s k e,s.steps<=P.fuel->(exp shw P f s k e).2.steps<=P.fuel
 |0,s,k,e,hs=>hs
 |f+1,s,k,e,hs=>by
  have ih:=zYs P f
  unfold exp
  refine zGc (fun _=>hs) fun _=>zGc (fun _=>hs) fun hn=>?_
  have h1:s.steps+1<=P.fuel:=by omega
  dsimp only
  refine zGc (fun _=>h1) fun _=>zGc (fun _=>h1) fun _=>zGc (fun _=>h1) fun _=>zGc (fun _=>h1) fun _=>zGc (fun _=>h1) fun _=>zGc (fun _=>?_) fun _=>zGc (fun _=>?_) fun _=>zGc (fun _=>?_) fun _=>zGc (fun _=>?_) fun _=>zGc (fun _=>?_) fun _=>zGc (fun _=>?_) fun _=>?_
  ·exact zYF ih _ _ _ (ih _ _ _ (ih _ _ _ h1))
  ·exact ih _ _ _ (ih _ _ _ h1)
  ·split
   ·exact h1
   ·exact ih _ _ _ (by show s.steps+1+1<=_;omega)
  ·have h2:=ih { s with steps:=s.steps+1 } (P.kid k 0) e h1
   split
   ·exact h2
   ·split
    ·split <;> exact ih _ _ _ h2
    ·exact h2
  ·have h2:=ih { s with steps:=s.steps+1 } (P.kid k 0) e h1
   split
   ·exact h2
   ·split <;> exact h2
  ·have h2:=ih { s with steps:=s.steps+1 } (P.kid k 0) e h1
   split
   ·exact h2
   ·exact ih _ _ _ h2
  ·have h2:=ih { s with steps:=s.steps+1 } (P.kid k 0) e h1
   split
   ·exact h2
   ·exact zV1 ih _ _ _ _ _ h2 _ _
theorem zaX(P:Pg){f:Nat}{s:S}(hf:f≠0)(h:s.fin≠0)(k:Nat)(e:Env): exp shw P f s k e=(.num 0,s):=by
 cases f with
 |zero=>exact absurd rfl hf
 |succ f=>unfold exp;rw[if_pos h]
end Go.Ev
namespace Go.Ev
variable {shw:Int->List UInt8}
mutual
def V.wf(n:Nat): V->Prop
 | .num _=>True
 | .text _=>True
 | .con _ _ args=>wfs n args
 | .prim _ args=>wfs n args
 | .fn _ _ _ env=>env.wf n
 | .cell i=>i<n
def wfs(n:Nat): List V->Prop
 |[]=>True
 |v::r=>v.wf n/\wfs n r
def Env.wf(n:Nat): Env->Prop
 | .nil=>True
 | .cons _ v up=>v.wf n/\up.wf n
end
mutual
theorem V.wf_mono{n m:Nat}(h:n<=m): ∀(v:V),v.wf n->v.wf m
 | .num _,_=>trivial
 | .text _,_=>trivial
 | .con _ _ args,hv=>zJr h args hv
 | .prim _ args,hv=>zJr h args hv
 | .fn _ _ _ env,hv=>Env.wf_mono h env hv
 | .cell _,hv=>qAc hv h
theorem zJr{n m:Nat}(h:n<=m): ∀(l:List V),wfs n l->wfs m l
 |[],_=>trivial
 |v::r,hv=>⟨V.wf_mono h v hv.1,zJr h r hv.2⟩
theorem Env.wf_mono{n m:Nat}(h:n<=m): ∀(e:Env),e.wf n->e.wf m
 | .nil,_=>trivial
 | .cons _ v up,hv=>⟨V.wf_mono h v hv.1,Env.wf_mono h up hv.2⟩
end
theorem zHw{n:Nat}: ∀{l m:List V},wfs n l->wfs n m->wfs n (l++m)
 |[],_,_,h=>h
 |_::_,_,h,k=>⟨h.1,zHw h.2 k⟩
theorem zJs{n:Nat}: ∀{l:List V} (i:Nat),wfs n l->(l.getD i default).wf n
 |[],i,_=>by rw[List.getD_nil];exact trivial
 |v::r,0,h=>h.1
 |v::r,i+1,h=>by rw[List.getD_cons_succ];exact zJs i h.2
theorem zTK{n:Nat}{v:V}(hv:v.wf n): ∀{l:List V} (i:Nat),wfs n l->wfs n (l.set i v)
 |[],_,_=>trivial
 |_::_,0,h=>⟨hv,h.2⟩
 |_::_,i+1,h=>⟨h.1,zTK hv i h.2⟩
def S.wf(s:S): Prop:=wfs s.cells.length s.cells
structure Wf(n:Nat)(r:V×S): Prop where
 st:r.2.wf
 val:r.1.wf r.2.cells.length
 le:n<=r.2.cells.length
theorem Wf.trans{n:Nat}{r q:V×S}(h:Wf n r)(k:Wf r.2.cells.length q): Wf n q:=⟨k.st,k.val,qAx h.le k.le⟩
theorem zZ0{s:S}(h:s.wf)(p:Nat)(a b:Int): Wf s.cells.length (s.ints p a b):=by
 unfold S.ints
 repeat' split
 all_goals exact⟨h,trivial,qAN _⟩
theorem zb4{s:S}(h:s.wf)(p:Nat){l:List V}(hl:wfs s.cells.length l): Wf s.cells.length (s.doP shw p l):=by
 have h0:=zJs 0 hl
 have h1:=zJs 1 hl
 unfold S.doP;dsimp only
 generalize l.getD 0 default=a at *
 generalize l.getD 1 default=b at *
 refine ite_wf ?_ (ite_wf ?_ (ite_wf ?_ (ite_wf ?_ (ite_wf ?_ (ite_wf ?_ (ite_wf ?_ ?_))))))
 ·split
  ·exact zZ0 h p _ _
  ·exact⟨h,trivial,qAN _⟩
 ·split
  ·split <;> exact⟨h,trivial,qAN _⟩
  ·exact⟨h,trivial,qAN _⟩
 ·split <;> exact⟨h,trivial,qAN _⟩
 ·have e:(s.cells++[a]).length=s.cells.length+1:=by simp
  refine⟨?_,?_,?_⟩
  ·show wfs (s.cells++[a]).length (s.cells++[a])
   rw[e]
   exact zHw (zJr (qBu _) _ h) ⟨V.wf_mono (qBu _) _ h0,trivial⟩
  ·show s.cells.length<(s.cells++[a]).length;omega
  ·show s.cells.length<=(s.cells++[a]).length;omega
 ·split
  ·exact⟨h,zJs _ h,qAN _⟩
  ·exact⟨h,trivial,qAN _⟩
 ·split
  ·rename_i i
   have e:(s.cells.set i b).length=s.cells.length:=qAv
   refine⟨?_,trivial,?_⟩
   ·show wfs (s.cells.set i b).length (s.cells.set i b)
    rw[e];exact zTK h1 i h
   ·show s.cells.length<=(s.cells.set i b).length;omega
  ·exact⟨h,trivial,qAN _⟩
 ·split <;> exact⟨h,trivial,qAN _⟩
 ·split <;> exact⟨h,trivial,qAN _⟩
where
 ite_wf {n:Nat} {c:Prop} [Decidable c] {a b:V×S} (ha:Wf n a) (hb:Wf n b):Wf n (if c then a else b):=by split <;> assumption
theorem zTa{P:Pg}{n:Nat}(x:List UInt8): ∀{e:Env},e.wf n->(told P x e).wf n
 | .nil,_=>trivial
 | .cons m v up,h=>by
  unfold told
  split
  ·exact h.1
  ·exact zTa x h.2
theorem zYD{ex:S->Nat->Env->V×S}{s:S}(hx:∀k e,e.wf s.cells.length->Wf s.cells.length (ex s k e))(hs:s.wf){f a:V}(hf:f.wf s.cells.length)(ha:a.wf s.cells.length): Wf s.cells.length (s.apply shw ex f a):=by
 unfold S.apply
 split
 ·exact⟨hs,ha,qAN _⟩
 ·split
  ·rename_i n k self env
   refine hx _ _ ⟨ha,?_⟩
   split
   ·exact hf
   ·exact⟨hf,hf⟩
  ·split
   ·exact zb4 hs _ (zHw hf ⟨ha,trivial⟩)
   ·exact⟨hs,zHw hf ⟨ha,trivial⟩,qAN _⟩
  ·split
   ·exact⟨hs,zHw hf ⟨ha,trivial⟩,qAN _⟩
   ·exact⟨hs,trivial,qAN _⟩
  ·exact⟨hs,trivial,qAN _⟩
theorem zUU{P:Pg}{n:Nat}{mt:Nat->V->Env->Option Env}(hm:∀k v e e',v.wf n->e.wf n->mt k v e=some e'->e'.wf n)(k:Nat): ∀(l:List V) (j:Nat) (e e':Env),wfs n l->e.wf n->matK P mt k j l e=some e'->e'.wf n
 |[],_,e,e',_,he,h=>by unfold matK at h;injection h with h;subst h;exact he
 |v::r,j,e,e',hl,he,h=>by
  unfold matK at h
  split at h
  ·cases h
  ·rename_i e1 h1
   exact zUU hm k r (j+1) e1 e' hl.2 (hm _ _ _ _ hl.1 he h1) h
theorem zQ2(P:Pg){n:Nat}: ∀f k v e e',v.wf n->e.wf n->mat P f k v e=some e'->e'.wf n
 |0,k,v,e,e',_,_,h=>by cases h
 |f+1,k,v,e,e',hv,he,h=>by
  unfold mat at h
  dsimp only at h
  split at h
  ·injection h with h;subst h;exact he
  split at h
  ·injection h with h;subst h;exact⟨hv,he⟩
  split at h
  ·split at h
   ·split at h
    ·injection h with h;subst h;exact he
    ·cases h
   ·cases h
  ·split at h
   ·split at h
    ·exact zUU (zQ2 P f) k _ 0 e e' hv he h
    ·cases h
   ·cases h
theorem zVz{ex:S->Nat->Env->V×S}{s:S}(hx:∀k e,e.wf s.cells.length->Wf s.cells.length (ex s k e))(hs:s.wf){P:Pg}{mt:Nat->V->Env->Option Env}(hm:∀k v e e',v.wf s.cells.length->e.wf s.cells.length->mt k v e=some e'->e'.wf s.cells.length)(k:Nat){v:V}{e:Env}(hv:v.wf s.cells.length)(he:e.wf s.cells.length): ∀c i,Wf s.cells.length (s.arms ex mt P k v e c i)
 |0,_=>⟨hs,trivial,qAN _⟩
 |c+1,i=>by
  unfold S.arms
  split
  ·rename_i e' h';exact hx _ _ (hm _ _ _ _ hv he h')
  ·exact zVz hx hs hm k hv he c (i+2)
theorem zYq(P:Pg): ∀f s k e,s.wf->e.wf s.cells.length->Wf s.cells.length (exp shw P f s k e)
 |0,s,k,e,hs,he=>⟨hs,trivial,qAN _⟩
 |f+1,s,k,e,hs,he=>by
  have ih:∀t k e,t.wf->e.wf t.cells.length->Wf t.cells.length (exp shw P f t k e):=zYq P f
  have ih1:∀k e,e.wf s.cells.length->Wf s.cells.length (exp shw P f { s with steps:=s.steps+1 } k e):=fun k e h=>ih { s with steps:=s.steps+1 } k e hs h
  have ihr:∀{r:V×S},Wf s.cells.length r->∀k e,e.wf r.2.cells.length->Wf s.cells.length (exp shw P f r.2 k e):=fun {r} h k e h'=>h.trans (ih _ k e h.st h')
  have tr:∀{v:V} {t:S},t.cells=s.cells->v.wf s.cells.length->Wf s.cells.length (v,t):=fun {v t} ht hv=>⟨by show wfs t.cells.length t.cells;rw[ht];exact hs,by show v.wf t.cells.length;rw[ht];exact hv,by show _<=t.cells.length;rw[ht];exact qAN _⟩
  have st:∀{r:V×S},Wf s.cells.length r->∀{v:V} {t:S},t.cells=r.2.cells->v.wf r.2.cells.length->Wf s.cells.length (v,t):=fun {r} h {v t} ht hv=>⟨by show wfs t.cells.length t.cells;rw[ht];exact h.st,by show v.wf t.cells.length;rw[ht];exact hv,by show _<=t.cells.length;rw[ht];exact h.le⟩
  unfold exp
  refine ite_wf (tr rfl trivial) (ite_wf (tr rfl trivial) ?_)
  dsimp only
  refine ite_wf ?_ (ite_wf ?_ (ite_wf ?_ (ite_wf ?_ (ite_wf ?_ (ite_wf ?_ (ite_wf ?_ (ite_wf ?_ (ite_wf ?_ (ite_wf ?_ (ite_wf ?_ ?_))))))))))
  ·exact tr rfl trivial
  ·exact tr rfl trivial
  ·exact tr rfl (zTa _ he)
  ·exact tr rfl trivial
  ·exact tr rfl he
  ·have h1:=ih1 (P.kid k 0) e he
   generalize exp shw P f { s with steps:=s.steps+1 } (P.kid k 0) e=r at *
   have h2:=ihr h1 (P.kid k 1) e (Env.wf_mono h1.le _ he)
   have h3:=ih r.2 (P.kid k 1) e h1.st (Env.wf_mono h1.le _ he)
   generalize exp shw P f r.2 (P.kid k 1) e=q at *
   exact h2.trans (zYD (fun k e h=>ih _ k e h2.st h) h2.st (V.wf_mono h3.le _ h1.val) h2.val)
  ·have h1:=ih1 (P.kid k 0) e he
   exact ihr h1 _ _ ⟨h1.val,Env.wf_mono h1.le _ he⟩
  ·refine ite_wf (tr rfl trivial) ?_
   exact ih { s with steps:=s.steps+1+1 } _ _ hs ⟨he,he⟩
  ·have h1:=ih1 (P.kid k 0) e he
   generalize exp shw P f { s with steps:=s.steps+1 } (P.kid k 0) e=r at *
   refine ite_wf (st h1 rfl trivial) ?_
   split
   ·refine ite_wf (ihr h1 _ _ (Env.wf_mono h1.le _ he)) (ihr h1 _ _ (Env.wf_mono h1.le _ he))
   ·exact st h1 rfl trivial
  ·have h1:=ih1 (P.kid k 0) e he
   generalize exp shw P f { s with steps:=s.steps+1 } (P.kid k 0) e=r at *
   refine ite_wf (st h1 rfl trivial) ?_
   split
   ·exact st h1 rfl trivial
   ·exact st h1 rfl trivial
  ·have h1:=ih1 (P.kid k 0) e he
   generalize exp shw P f { s with steps:=s.steps+1 } (P.kid k 0) e=r at *
   refine ite_wf h1 ?_
   exact h1.trans (ih { r.2 with fin:=0 } _ _ h1.st ⟨trivial,Env.wf_mono h1.le _ he⟩)
  ·have h1:=ih1 (P.kid k 0) e he
   generalize exp shw P f { s with steps:=s.steps+1 } (P.kid k 0) e=r at *
   refine ite_wf h1 ?_
   exact h1.trans (zVz (fun k e h=>ih _ k e h1.st h) h1.st (zQ2 P P.deep) _ h1.val (Env.wf_mono h1.le _ he) _ _)
where
 ite_wf {n:Nat} {c:Prop} [Decidable c] {a b:V×S} (ha:Wf n a) (hb:Wf n b):Wf n (if c then a else b):=by split <;> assumption
end Go.Ev
namespace Go.Proofs.YtjcgiiedaccjpaaGreatDoor
open Go.Sx Go.Ev
def addT: List UInt8:=[97,100,100]
def subT: List UInt8:=[115,117,98]
def mulT: List UInt8:=[109,117,108]
def divT: List UInt8:=[100,105,118]
def modT: List UInt8:=[109,111,100]
def eqT: List UInt8:=[101,113]
def ltT: List UInt8:=[108,116]
def catT: List UInt8:=[99,97,116]
def lenT: List UInt8:=[108,101,110]
def getT: List UInt8:=[103,101,116]
def setT: List UInt8:=[115,101,116]
def putT: List UInt8:=[112,117,116]
def sayT: List UInt8:=[115,97,121]
def pnames: List (List UInt8):=[addT,subT,mulT,divT,modT,eqT,ltT,catT,lenT,refT,getT,setT,putT,sayT]
def zMp(f:FuncId): D:=.clo 147 [.ref [.clo f []]]
def pdo(p:Nat): D :=
 if p=0 then zMp 87 else if p=1 then zMp 89 else if p=2 then zMp 91
 else if p=3 then zMp 93 else if p=4 then zMp 96 else if p=5 then zMp 98
 else if p=6 then zMp 100 else if p=7 then .clo 101 []else if p=8 then .clo 102 []
 else if p=9 then .clo 103 []else if p=10 then .clo 104 []else if p=11 then .clo 105 []
 else if p=12 then .clo 106 []else if p=13 then .clo 108 []else .val .nilFunc
def zCS(p:Nat): List UInt8:=pnames.getD p []
abbrev biC(p:Nat): List D:=[str (zCS p),i64 (pneed p),pdo p]
def biD(p:Nat): D:=.agg (biC p)
def bis(L:List Nat): D:=.slice (L.map biD)
def pidx(s:List UInt8): Nat:=match (List.range 14).findIdx? fun p=>decide (zCS p=s)with
 |some i=>i
 |none=>14
mutual
def encV(bs:List Nat): V->D
 | .num n=>.ifc 101 (.agg [i64 n])
 | .text t=>.ifc 106 (.agg [str t])
 | .con n need args=>.ifc 108 (.ref [str n,.slice (zDQ bs args),i64 need])
 | .prim p args=>.ifc 165 (.ref [str (zCS p),i64 (pneed p),pdo p,.slice (zDQ bs args)])
 | .fn n k self env=>.ifc 112 (.ref [str n,i64 k,encE bs env,str self])
 | .cell i=>.ifc 155 (pv (bs.getD i 0))
def zDQ(bs:List Nat): List V->List D
 |[]=>[]
 |v::r=>encV bs v::zDQ bs r
def encE(bs:List Nat): Env->D
 | .nil=>.val (.pointer none)
 | .cons n v up=>.ref [str n,encV bs v,encE bs up]
end
theorem zRM{l m:List Nat}(h:l <+: m){i:Nat}(hi:i<l.length): m.getD i 0=l.getD i 0:=by
 obtain⟨r,rfl⟩:=h
 rw[qAL,qAL,qAG hi]
mutual
theorem zJ8{l m:List Nat}(h:l <+: m): ∀(v:V),v.wf l.length->encV m v=encV l v
 | .num _,_=>rfl
 | .text _,_=>rfl
 | .con _ _ args,hv=>by rw[encV,encV,zIp h args hv]
 | .prim _ args,hv=>by rw[encV,encV,zIp h args hv]
 | .fn _ _ _ env,hv=>by rw[encV,encV,zNH h env hv]
 | .cell i,hv=>by rw[encV,encV,zRM h hv]
theorem zIp{l m:List Nat}(h:l <+: m): ∀(r:List V),wfs l.length r->zDQ m r=zDQ l r
 |[],_=>rfl
 |v::r,hv=>by rw[zDQ,zDQ,zJ8 h v hv.1,zIp h r hv.2]
theorem zNH{l m:List Nat}(h:l <+: m): ∀(e:Env),e.wf l.length->encE m e=encE l e
 | .nil,_=>rfl
 | .cons _ v up,hv=>by rw[encE,encE,zJ8 h v hv.1,zNH h up hv.2]
end
theorem zEl(bs:List Nat): ∀l:List V,zDQ bs l=l.map (encV bs)
 |[]=>rfl
 |v::r=>by rw[zDQ,qA1,zEl bs r]
theorem zDp(bs:List Nat)(l:List V): (zDQ bs l).length=l.length:=by rw[zEl,qAE]
theorem zIq(bs:List Nat)(l m:List V): zDQ bs (l++m)=zDQ bs l++zDQ bs m:=by rw[zEl,zEl,zEl,qAZ]
def zBc(bs:List Nat)(cs:List V): List (Nat×D):=List.zip bs (zDQ bs cs)
theorem zFm{bs:List Nat}{cs:List V}(hl:bs.length=cs.length){i:Nat}(hi:i<cs.length): (zBc bs cs)[i]?=some (bs.getD i 0,encV bs (cs.getD i default)):=by
 unfold zBc
 rw[List.getElem?_zip_eq_some,zEl,qAJ,qAL,qAL]
 rw[qAB (by omega:i<bs.length),qAB hi]
 exact⟨rfl,rfl⟩
theorem zA1{bs bs':List Nat}{cs cs':List V}(h:bs <+: bs')(hl:bs.length=cs.length)(hl':bs'.length=cs'.length): ∀(j b:Nat) (d:D),(zBc bs cs)[j]?=some (b,d)->∃d',(zBc bs' cs')[j]?=some (b,d'):=by
 intro j b d hj
 have hjl:j<cs.length:=by
  have h1:=(qAA.1 hj).1
  unfold zBc at h1
  rw[List.length_zip,zDp]at h1;omega
 have hle:=h.length_le
 rw[zFm hl hjl]at hj
 injection hj with hj;injection hj with h1 h2;subst h1
 exact⟨_,by rw[zFm hl' oM,zRM h oM]⟩
abbrev MB(L:List Nd)(T:List Dt)(fuel:Nat)(s:S): List Ob :=
 [.box [.d (zAu L),.d (dts T),.d (i64 (fuel:Int)),.d (i64 (s.steps:Int)),.buf 1 s.out.length,.d (i64 s.fin),.d (i64 s.raised)],
  .buf true 9 1 (s.out.map str)]
open _root_.Go.Proofs.Tryz
open Go.RowKit
theorem zCP: zA7 prog 80 0=some 0:=by kernel_rfl
theorem zKK: zA7 prog 80 1=some 1:=by kernel_rfl
theorem zNc: zA7 prog 80 2=some 2:=by kernel_rfl
theorem zGV: zA7 prog 80 3=some 3:=by kernel_rfl
theorem zEI: zA7 prog 80 4=some 4:=by kernel_rfl
theorem zFo: zA7 prog 80 5=some 5:=by kernel_rfl
theorem zCZ: zA7 prog 80 6=some 6:=by kernel_rfl
theorem zKJ: zA7 prog 80 7=some 7:=by kernel_rfl
theorem zAS: zBh prog 80=some (true,8):=by kernel_rfl
theorem zBp: zBv prog 80=some [.slice none 0 0,.slice none 0 0,.int .i64 0,.int .i64 0,.slice none 0 0,.slice none 0 0,.int .i64 0,.int .i64 0]:=by kernel_rfl
theorem zMX: zCk prog 80=some [(0,1),(1,1),(2,1),(3,1),(4,1),(5,1),(6,1),(7,1)]:=by kernel_rfl
theorem zBm: zA7 prog 78 0=some 0:=by kernel_rfl
theorem zD1: zA7 prog 78 1=some 1:=by kernel_rfl
theorem zCy: zA7 prog 78 2=some 2:=by kernel_rfl
theorem zD0: zA7 prog 78 3=some 3:=by kernel_rfl
theorem zCi: zA7 prog 78 4=some 4:=by kernel_rfl
theorem zNb: zA7 prog 78 5=some 5:=by kernel_rfl
theorem zKI: zA7 prog 78 6=some 6:=by kernel_rfl
theorem zNa: zA7 prog 78 7=some 7:=by kernel_rfl
theorem zAd: zBh prog 78=some (true,8):=by kernel_rfl
theorem zGO: zDf prog 78=some 8:=by kernel_rfl
theorem zEh: (zBv prog 78).isSome=true:=by kernel_rfl
theorem zBS: zBv prog 78=some [.int .i64 0,.int .i64 0,.string ByteArray.empty,.int .i64 0,.slice none 0 0,.int .i64 0,.string ByteArray.empty,.slice none 0 0]:=by kernel_rfl
theorem zEi: zCk prog 78=some [(0,1),(1,1),(2,1),(3,1),(4,1),(5,1),(6,1),(7,1)]:=by kernel_rfl
theorem zNZ: zA7 prog 141 0=some 0:=by kernel_rfl
theorem zTH: zA7 prog 141 1=some 1:=by kernel_rfl
theorem zPO: zDf prog 141=some 9:=by kernel_rfl
theorem zMW: (zBv prog 141).isSome=true:=by kernel_rfl
theorem zTE: zBv prog 141=some [.string ByteArray.empty,.int .i64 0,.int .i64 0,.string ByteArray.empty,.int .i64 0,.slice none 0 0,.int .i64 0,.string ByteArray.empty,.slice none 0 0]:=by kernel_rfl
theorem zTG: zCk prog 141=some [(0,1),(1,8)]:=by kernel_rfl
theorem zBy: zBU prog 75=some 8:=by kernel_rfl
theorem zER: (zCB prog 75).isSome=true:=by kernel_rfl
theorem zCg: zCB prog 75=some 78:=by kernel_rfl
theorem zGP: zDZ prog 75=some 112:=by kernel_rfl
theorem zB1: zBh prog 75=some (false,1):=by kernel_rfl
theorem zFp: zBU prog 76=some 9:=by kernel_rfl
theorem zZJ: (zCB prog 76).isSome=true:=by kernel_rfl
theorem zGn: zCB prog 76=some 141:=by kernel_rfl
theorem zPP: zDZ prog 76=some 128:=by kernel_rfl
theorem zTF: zBh prog 76=some (false,1):=by kernel_rfl
theorem zCJ: zBh prog 74=some (false,1):=by kernel_rfl
theorem zHF: zAQ prog 79=true:=by kernel_rfl
theorem zIJ: zAQ prog 84=true:=by kernel_rfl
theorem zDD: zAQ prog 81=true:=by kernel_rfl
theorem zJu: zAQ prog 19=true:=by kernel_rfl
theorem zPR: zAQ prog 27=true:=by kernel_rfl
theorem za8: zAQ prog 176=true:=by kernel_rfl
theorem za9: zAQ prog 146=true:=by kernel_rfl
theorem zHx: zAQ prog 83=true:=by kernel_rfl
theorem zWb: zAQ prog 82=true:=by kernel_rfl
theorem zJt: zAQ prog 85=true:=by kernel_rfl
theorem zDb: zAQ prog 33=true:=by kernel_rfl
theorem zMa: zAQ prog 34=true:=by kernel_rfl
theorem zMc: zAQ prog 11=true:=by kernel_rfl
theorem zbA: zAQ prog 14=true:=by kernel_rfl
theorem zPS: zAQ prog 18=true:=by kernel_rfl
theorem zCN: zBU prog 22=some 3:=by kernel_rfl
theorem zCr: (zCB prog 22).isSome=true:=by kernel_rfl
theorem zRZ: zCB prog 22=some 70:=by kernel_rfl
theorem zai: zDZ prog 22=some 48:=by kernel_rfl
theorem zFS: zBh prog 22=some (false,1):=by kernel_rfl
theorem zC4: zA7 prog 70 0=some 0:=by kernel_rfl
theorem zDo: zA7 prog 70 1=some 1:=by kernel_rfl
theorem zBt: zA7 prog 70 2=some 2:=by kernel_rfl
theorem zGU: zBh prog 70=some (true,3):=by kernel_rfl
theorem zag: zDf prog 70=some 3:=by kernel_rfl
theorem zae: (zBv prog 70).isSome=true:=by kernel_rfl
theorem zP2: zBv prog 70=some [.string ByteArray.empty,.int .i64 0,.slice none 0 0]:=by kernel_rfl
theorem zDW: zBU prog 68=some 2:=by kernel_rfl
theorem zC8: (zCB prog 68).isSome=true:=by kernel_rfl
theorem zCV: zBh prog 68=some (false,1):=by kernel_rfl
theorem zDn: zA7 prog 67 0=some 0:=by kernel_rfl
theorem zCA: zA7 prog 67 1=some 1:=by kernel_rfl
theorem zEj: zBh prog 67=some (true,2):=by kernel_rfl
theorem zIC: zBv prog 67=some [.string ByteArray.empty,.slice none 0 0]:=by kernel_rfl
theorem zBO: zA7 prog 55 0=some 0:=by kernel_rfl
theorem zVV: zA7 prog 55 1=some 1:=by kernel_rfl
theorem zCW: zA7 prog 55 2=some 2:=by kernel_rfl
theorem zB9: zA7 prog 55 3=some 3:=by kernel_rfl
theorem zFH: zA7 prog 55 4=some 4:=by kernel_rfl
theorem zBW: zA7 prog 55 5=some 5:=by kernel_rfl
theorem zK6: zA7 prog 55 6=some 6:=by kernel_rfl
theorem zaf: zBv prog 55=some [.slice none 0 0,.slice none 0 0,.int .i64 0,.int .i64 0,.slice none 0 0,.int .i64 0,.int .i64 0]:=by kernel_rfl
theorem zah: zCk prog 55=some [(0,1),(1,1),(2,1),(3,1),(4,1),(5,1),(6,1)]:=by kernel_rfl
theorem zC1: zBh prog 57=some (false,1):=by kernel_rfl
theorem zP3: zDf prog 57=some 1:=by kernel_rfl
theorem zP1: (zBv prog 57).isSome=true:=by kernel_rfl
theorem zP4: zBh prog 99=some (false,1):=by kernel_rfl
theorem zVU: zA7 prog 117 0=some 0:=by kernel_rfl
theorem zVT: zA7 prog 117 1=some 1:=by kernel_rfl
theorem zVS: zA7 prog 117 2=some 2:=by kernel_rfl
theorem zIB: zBv prog 117=some [.string ByteArray.empty,.nilIface,.pointer none]:=by kernel_rfl
theorem zID: zCk prog 117=some [(0,1),(1,1),(2,1)]:=by kernel_rfl
theorem zFz: zA7 prog 101 0=some 0:=by kernel_rfl
theorem zDw: zBh prog 101=some (true,1):=by kernel_rfl
theorem zCM: zBv prog 101=some [.int .i64 0]:=by kernel_rfl
theorem zD5: zCk prog 101=some [(0,1)]:=by kernel_rfl
theorem zGf: zA7 prog 106 0=some 0:=by kernel_rfl
theorem zFb: zBh prog 106=some (true,1):=by kernel_rfl
theorem zDd: zBv prog 106=some [.string ByteArray.empty]:=by kernel_rfl
theorem zRY: zCk prog 106=some [(0,1)]:=by kernel_rfl
theorem zHi: zA7 prog 111 0=some 0:=by kernel_rfl
theorem zE5: zA7 prog 111 1=some 1:=by kernel_rfl
theorem zFl: zA7 prog 111 2=some 2:=by kernel_rfl
theorem zRS: zBv prog 111=some [.string ByteArray.empty,.slice none 0 0,.int .i64 0]:=by kernel_rfl
theorem zRX: zCk prog 111=some [(0,1),(1,1),(2,1)]:=by kernel_rfl
theorem zCE: zBU prog 109=some 1:=by kernel_rfl
theorem zGJ: (zCB prog 109).isSome=true:=by kernel_rfl
theorem zGh: zCB prog 109=some 57:=by kernel_rfl
theorem zNE: zDZ prog 109=some 16:=by kernel_rfl
theorem zFa: zBh prog 109=some (false,1):=by kernel_rfl
theorem zML: zA7 prog 114 0=some 0:=by kernel_rfl
theorem zMK: zA7 prog 114 1=some 1:=by kernel_rfl
theorem zMJ: zA7 prog 114 2=some 2:=by kernel_rfl
theorem zMI: zA7 prog 114 3=some 3:=by kernel_rfl
theorem zRR: zBv prog 114=some [.string ByteArray.empty,.int .i64 0,.pointer none,.string ByteArray.empty]:=by kernel_rfl
theorem zRW: zCk prog 114=some [(0,1),(1,1),(2,1),(3,1)]:=by kernel_rfl
theorem zMH: zA7 prog 167 0=some 0:=by kernel_rfl
theorem zMG: zA7 prog 167 1=some 3:=by kernel_rfl
theorem zRQ: zBv prog 167=some [.string ByteArray.empty,.int .i64 0,.nilFunc,.slice none 0 0]:=by kernel_rfl
theorem zRV: zCk prog 167=some [(0,3),(3,1)]:=by kernel_rfl
theorem zMF: zA7 prog 157 0=some 0:=by kernel_rfl
theorem zXt: zBv prog 157=some [.nilIface]:=by kernel_rfl
theorem zXw: zCk prog 157=some [(0,1)]:=by kernel_rfl
theorem zHh: zA7 prog 90 0=some 0:=by kernel_rfl
theorem zME: zA7 prog 90 1=some 1:=by kernel_rfl
theorem zSn: zA7 prog 90 2=some 2:=by kernel_rfl
theorem zDO: zBh prog 90=some (true,3):=by kernel_rfl
theorem zXq: (zBv prog 90).isSome=true:=by kernel_rfl
theorem zDU: zBv prog 90=some [.string ByteArray.empty,.int .i64 0,.nilFunc]:=by kernel_rfl
theorem zFc: zCk prog 90=some [(0,1),(1,1),(2,1)]:=by kernel_rfl
theorem zHk: zBU prog 86=some 3:=by kernel_rfl
theorem zRa: (zCB prog 86).isSome=true:=by kernel_rfl
theorem zVW: zCB prog 86=some 90:=by kernel_rfl
theorem zXv: zBh prog 88=some (false,1):=by kernel_rfl
theorem zXu: zBh prog 149=some (false,1):=by kernel_rfl
theorem zE4: zA7 prog 29 0=some 0:=by kernel_rfl
theorem zEa: zA7 prog 29 1=some 1:=by kernel_rfl
theorem zJQ: zA7 prog 29 2=some 2:=by kernel_rfl
theorem zMD: zA7 prog 29 3=some 3:=by kernel_rfl
theorem zHg: zA7 prog 29 4=some 4:=by kernel_rfl
theorem zBs: zBh prog 29=some (true,5):=by kernel_rfl
theorem zCO: zBv prog 29=some [.int .i64 0,.slice none 0 0,.int .i64 0,.slice none 0 0,.int .i64 0]:=by kernel_rfl
theorem zEB: zCk prog 29=some [(0,1),(1,1),(2,1),(3,1),(4,1)]:=by kernel_rfl
theorem zA8: zBh prog 26=some (false,1):=by kernel_rfl
theorem zHj: zBU prog 40=some 2:=by kernel_rfl
theorem zNC: (zCB prog 40).isSome=true:=by kernel_rfl
theorem zGg: zCB prog 40=some 45:=by kernel_rfl
theorem zND: zDZ prog 40=some 40:=by kernel_rfl
theorem zSm: zA7 prog 45 0=some 0:=by kernel_rfl
theorem zSl: zA7 prog 45 1=some 1:=by kernel_rfl
theorem zM9: zDf prog 45=some 2:=by kernel_rfl
theorem zM7: (zBv prog 45).isSome=true:=by kernel_rfl
theorem zM8: zBv prog 45=some [.string ByteArray.empty,.slice none 0 0]:=by kernel_rfl
theorem zNB: zCk prog 45=some [(0,1),(1,1)]:=by kernel_rfl
theorem zRU: zBh prog 50=some (false,1):=by kernel_rfl
theorem zXs: zBv prog 50=some [.nilFunc]:=by kernel_rfl
theorem zRT: zBh prog 132=some (false,1):=by kernel_rfl
theorem zXr: zBv prog 132=some [.nilFunc]:=by kernel_rfl
theorem zCY: zBh prog 65=some (false,1):=by kernel_rfl
theorem zDm: zAQ prog 23=true:=by kernel_rfl
theorem zXY: zAQ prog 49=true:=by kernel_rfl
theorem zMw: zAQ prog 51=true:=by kernel_rfl
theorem zaL: zAQ prog 47=true:=by kernel_rfl
theorem zDv: zAQ prog 45=true:=by kernel_rfl
theorem zJ5: zAQ prog 50=true:=by kernel_rfl
theorem zH9: zAQ prog 36=true:=by kernel_rfl
theorem zUx: zAQ prog 78=true:=by kernel_rfl
theorem zH8: zAQ prog 86=true:=by kernel_rfl
theorem zJ4: zAQ prog 95=true:=by kernel_rfl
theorem zYp: zAQ prog 99=true:=by kernel_rfl
theorem zbq: zAQ prog 101=true:=by kernel_rfl
theorem zbp: zAQ prog 105=true:=by kernel_rfl
theorem zH7: zAQ prog 266=true:=by kernel_rfl
theorem zK0: zAQ prog 8=true:=by kernel_rfl
theorem zGG: zAQ prog 12=true:=by kernel_rfl
theorem zXW: zAQ prog 31=true:=by kernel_rfl
theorem zRI: zAQ prog 35=true:=by kernel_rfl
theorem zK1: zAQ prog 16=true:=by kernel_rfl
theorem zXX: zAQ prog 145=true:=by kernel_rfl
theorem zG2: zAQ prog 147=true:=by kernel_rfl
theorem zUw: zAQ prog 77=true:=by kernel_rfl
theorem zcz: zAQ prog 87=true:=by kernel_rfl
theorem zcy: zAQ prog 89=true:=by kernel_rfl
theorem zcx: zAQ prog 91=true:=by kernel_rfl
theorem zcw: zAQ prog 93=true:=by kernel_rfl
theorem zcv: zAQ prog 96=true:=by kernel_rfl
theorem zcu: zAQ prog 98=true:=by kernel_rfl
theorem zct: zAQ prog 100=true:=by kernel_rfl
theorem zcs: zAQ prog 102=true:=by kernel_rfl
theorem zcr: zAQ prog 103=true:=by kernel_rfl
theorem zbt: zAQ prog 104=true:=by kernel_rfl
theorem zbs: zAQ prog 106=true:=by kernel_rfl
theorem zbr: zAQ prog 108=true:=by kernel_rfl
theorem zPu: zAQ prog 265=true:=by kernel_rfl
theorem zOa: zAQ prog 267=true:=by kernel_rfl
theorem zPv: zAQ prog 268=true:=by kernel_rfl
theorem zOc: zAQ prog 269=true:=by kernel_rfl
theorem zOd: zAQ prog 270=true:=by kernel_rfl
theorem zOb: zAQ prog 271=true:=by kernel_rfl
theorem zXa: zAQ prog 30=true:=by kernel_rfl
theorem zXZ: zAQ prog 63=true:=by kernel_rfl
theorem zPw: zAQ prog 67=true:=by kernel_rfl
theorem zMx: zAQ prog 69=true:=by kernel_rfl
theorem zIA: zAQ prog 48=true:=by kernel_rfl
theorem zMy: zAQ prog 37=true:=by kernel_rfl
theorem zU4: zAQ prog 62=true:=by kernel_rfl
theorem zU3: zAQ prog 65=true:=by kernel_rfl
theorem zU2: zAQ prog 66=true:=by kernel_rfl
theorem zU1: zAQ prog 68=true:=by kernel_rfl
theorem zSb: zAQ prog 70=true:=by kernel_rfl
theorem zU0: zAQ prog 71=true:=by kernel_rfl
theorem zSa: zAQ prog 73=true:=by kernel_rfl
theorem zRJ: zAQ prog 116=true:=by kernel_rfl
theorem zUz: zAQ prog 135=true:=by kernel_rfl
theorem zSZ: zAQ prog 136=true:=by kernel_rfl
theorem zUy: zAQ prog 139=true:=by kernel_rfl
theorem zYo: zAQ prog 61=true:=by kernel_rfl
theorem zUt: zAQ prog 64=true:=by kernel_rfl
theorem zUu: zAQ prog 72=true:=by kernel_rfl
theorem zaK: zAQ prog 140=true:=by kernel_rfl
theorem zbo: zAQ prog 137=true:=by kernel_rfl
theorem zbl: zAQ prog 171=true:=by kernel_rfl
theorem zbm: zAQ prog 75=true:=by kernel_rfl
theorem zbj: zAQ prog 142=true:=by kernel_rfl
theorem zbn: zAQ prog 74=true:=by kernel_rfl
theorem zbk: zAQ prog 141=true:=by kernel_rfl
theorem zYn: zAQ prog 144=true:=by kernel_rfl
theorem zIm: zAQ prog 6=true:=by kernel_rfl
theorem zRH: zAQ prog 7=true:=by kernel_rfl
theorem zUv: zAQ prog 10=true:=by kernel_rfl
theorem zMv: zAQ prog 9=true:=by kernel_rfl
theorem zMz: zAQ prog 13=true:=by kernel_rfl
theorem zaN: zAQ prog 22=true:=by kernel_rfl
theorem zCh: conc prog 101=true:=by kernel_rfl
theorem zDH: conc prog 106=true:=by kernel_rfl
theorem zEc: conc prog 108=true:=by kernel_rfl
theorem zDY: conc prog 112=true:=by kernel_rfl
theorem zDi: conc prog 165=true:=by kernel_rfl
theorem zLI: conc prog 155=true:=by kernel_rfl
theorem zIG: zMU prog 101=some (.agg [i64 0]):=by kernel_rfl
theorem zKE: zMU prog 106=some (.agg [.val (.string ByteArray.empty)]):=by kernel_rfl
theorem zYZ: zMU prog 108=some (.val (.pointer none)):=by kernel_rfl
theorem zKF: zMU prog 112=some (.val (.pointer none)):=by kernel_rfl
theorem zPN: zMU prog 165=some (.val (.pointer none)):=by kernel_rfl
theorem zTA: zMU prog 155=some (.val (.pointer none)):=by kernel_rfl
end Go.Proofs.YtjcgiiedaccjpaaGreatDoor
namespace Go.Proofs.YtjcgiiedaccjpaaGreatDoor
open _root_.Go.Proofs.Tryz
open Go.Sx
attribute [local irreducible] zAQ Program.underlying Ylds zBJ alex zBk zBZ awp zAX FCall zBo zBR zBX zBb zBD zBd zBj zBn zBu zBP VCall
theorem zGl{α:Type}{p:α->Bool}{L:List α}: decide (idxP p L>=0)=L.any p:=by
 cases h:L.any p with
 |true =>
  obtain⟨x,hx,hpx⟩:=qBK.1 h
  have:idxP p L>=0:=by
   unfold idxP;split
   ·omega
   ·rename_i hn;rw[qBB]at hn;rw[hn x hx]at hpx;cases hpx
  simpa using this
 |false =>
  rw[zD3 fun j u hu=>by have:=qBT.1 h u (qAC hu);simpa using this]
  rfl
theorem zZE{fd:D}{p:Dt->Bool}{L:List (Dt)}(hp:∀(i:Nat) v,L[i]?=some v->VCall prog fd [(fun u:Dt=>u.av) v] (bl (p v)))(hL:L.length<=2000000):
  zAX prog 64 [dts L,fd] (i64 (idxP p L)):=by
 refine zAc func64 rfl ntmps64 results64 rfl ?_
 intro wb St0
 repeat' first|apply en_n|apply zAE|apply zAA|apply zAD|apply w0|refine ayA rfl ?_|apply zAH
 refine zAt (α:=Nat) (fun i=>i<=L.length/\∀(j:Nat) u,j<i->L[j]?=some u->p u=false) (fun i=>[(0,.d (dts L)),(1,.d fd),(7,.d (i64 (L.length:Int))),(8,.d (i64 (i:Int)))]) (fun _=>[]) (fun i=>L.length-i) 0 ⟨qAO _,fun j u h=>by omega⟩
  (zAV (Le_cons rfl (Le_cons rfl (Le_d rfl rfl (Le_all rfl)))) zAW rfl rfl) ?_
 rintro i ⟨hi1,hi2⟩
 repeat' first|apply en_n|apply zAE|apply zAA|apply zAD|apply w0|(refine zE8 (hp i v hv) rfl (zAL rfl zAF))|(apply aI (hd:=rfl);(first|exact zAr rfl|exact Co_bb rfl rfl rfl|exact Co_nn rfl);exact rfl;(with_reducible exact zCN);exact fun _=>rfl;rotate_left;intro v hv;rotate_right)|refine ayA rfl ?_|apply ay (hd:=rfl)|exact zCt rfl rfl|refine zBN rfl rfl ?_|(apply zA3;exact rfl;all_goals intro hb)|(apply zCd;exact rfl;all_goals intro hb)|apply zAH|apply zAM|apply zAN|apply zAz|apply en_r|apply en_e|apply eb_n|apply eb_r|apply eb_e|apply zAO|refine res1 rfl ?_
 ·omega
 ·exact zCm (zGE hi2 hv hb).symm
 ·omega
 ·refine⟨i+1,⟨by omega,fun j u hj hu=>?_⟩,by omega,zAV (Le_all rfl) zAW rfl rfl⟩
  rcases qAF j i with h1|h1
  ·exact hi2 j u h1 hu
  ·have hv':L[i]?=some v:=hv
   rw[show j=i by omega,hv']at hu;injection hu with hu;subst hu;exact hb
 ·exact zCm (zD3 fun j u hu=>hi2 j u (by have:=(qAA.1 hu).1;omega) hu).symm
theorem zcc{fd:D}{p:Dt->Bool}(hp:∀u,VCall prog fd [u.av] (bl (p u)))(L:List (Dt))(hL:L.length<=2000000):
  zAX prog 64 [dts L,fd] (i64 (idxP p L)):=zZE (fun _ v _=>hp v) hL
theorem zdW{fd:D}{p:Dt->Bool}(hp:∀u,VCall prog fd [u.av] (bl (p u)))(L:List (Dt))(hL:L.length<=2000000):
  zAX prog 61 [dts L,fd] (bl (L.any p)):=by
 refine zAc func61 rfl ntmps61 results61 rfl ?_
 intro wb St0
 exact yl
theorem zci{fd:D}{p:Dt->Bool}{L:List (Dt)}(hp:∀u∈L,VCall prog fd [u.av] (bl (p u)))(hL:L.length<=2000000):
  zAX prog 61 [dts L,fd] (bl (L.any p)):=by
 have h1:∀(i:Nat) v,L[i]?=some v->VCall prog fd [(fun u:Dt=>u.av) v] (bl (p v)):=fun i v hv=>hp v (qAC hv)
 refine zAc func61 rfl ntmps61 results61 rfl ?_
 intro wb St0
 exact yl
theorem za2{fd:D}{p:List Nd->Bool}{L:List (List Nd)}(hp:∀(i:Nat) v,L[i]?=some v->VCall prog fd [(fun u:List Nd=>zAu u) v] (bl (p v)))(hL:L.length<=2000000):
  zAX prog 140 [zC0 L,fd] (i64 (idxP p L)):=by
 refine zAc func140 rfl ntmps140 results140 rfl ?_
 intro wb St0
 repeat' first|apply en_n|apply zAE|apply zAA|apply zAD|apply w0|refine ayA rfl ?_|apply zAH
 refine zAt (α:=Nat) (fun i=>i<=L.length/\∀(j:Nat) u,j<i->L[j]?=some u->p u=false) (fun i=>[(0,.d (zC0 L)),(1,.d fd),(7,.d (i64 (L.length:Int))),(8,.d (i64 (i:Int)))]) (fun _=>[]) (fun i=>L.length-i) 0 ⟨qAO _,fun j u h=>by omega⟩
  (zAV (Le_cons rfl (Le_cons rfl (Le_d rfl rfl (Le_all rfl)))) zAW rfl rfl) ?_
 rintro i ⟨hi1,hi2⟩
 repeat' first|apply en_n|apply zAE|apply zAA|apply zAD|apply w0|(refine zE8 (hp i v hv) rfl (zAL rfl zAF))|(apply aI (hd:=rfl);(first|exact zAr rfl|exact Co_bb rfl rfl rfl|exact Co_nn rfl);exact rfl;(with_reducible exact zB7);exact fun _=>rfl;rotate_left;intro v hv;rotate_right)|refine ayA rfl ?_|apply ay (hd:=rfl)|exact zCt rfl rfl|refine zBN rfl rfl ?_|(apply zA3;exact rfl;all_goals intro hb)|(apply zCd;exact rfl;all_goals intro hb)|apply zAH|apply zAM|apply zAN|apply zAz|apply en_r|apply en_e|apply eb_n|apply eb_r|apply eb_e|apply zAO|refine res1 rfl ?_
 ·omega
 ·exact zCm (zGE hi2 hv hb).symm
 ·omega
 ·refine⟨i+1,⟨by omega,fun j u hj hu=>?_⟩,by omega,zAV (Le_all rfl) zAW rfl rfl⟩
  rcases qAF j i with h1|h1
  ·exact hi2 j u h1 hu
  ·have hv':L[i]?=some v:=hv
   rw[show j=i by omega,hv']at hu;injection hu with hu;subst hu;exact hb
 ·exact zCm (zD3 fun j u hu=>hi2 j u (by have:=(qAA.1 hu).1;omega) hu).symm
theorem zWT{fd:D}{p:List Nd->Bool}{L:List (List Nd)}(hp:∀u∈L,VCall prog fd [zAu u] (bl (p u)))(hL:L.length<=2000000):
  zAX prog 72 [zC0 L,fd] (bl (L.any p)):=by
 have h1:∀(i:Nat) v,L[i]?=some v->VCall prog fd [(fun u:List Nd=>zAu u) v] (bl (p v)):=fun i v hv=>hp v (qAC hv)
 refine zAc func72 rfl ntmps72 results72 rfl ?_
 intro wb St0
 exact yl
theorem zcZ{fd:D}{p:Nd->Bool}{L:List (Nd)}(hp:∀(i:Nat) v,L[i]?=some v->VCall prog fd [(fun u:Nd=>u.av) v] (bl (p v)))(hL:L.length<=2000000):
  zAX prog 141 [zAu L,fd] (i64 (idxP p L)):=by
 refine zAc func141 rfl ntmps141 results141 rfl ?_
 intro wb St0
 repeat' first|apply en_n|apply zAE|apply zAA|apply zAD|apply w0|refine ayA rfl ?_|apply zAH
 refine zAt (α:=Nat) (fun i=>i<=L.length/\∀(j:Nat) u,j<i->L[j]?=some u->p u=false) (fun i=>[(0,.d (zAu L)),(1,.d fd),(7,.d (i64 (L.length:Int))),(8,.d (i64 (i:Int)))]) (fun _=>[]) (fun i=>L.length-i) 0 ⟨qAO _,fun j u h=>by omega⟩
  (zAV (Le_cons rfl (Le_cons rfl (Le_d rfl rfl (Le_all rfl)))) zAW rfl rfl) ?_
 rintro i ⟨hi1,hi2⟩
 repeat' first|apply en_n|apply zAE|apply zAA|apply zAD|apply w0|(refine zE8 (hp i v hv) rfl (zAL rfl zAF))|(apply aI (hd:=rfl);(first|exact zAr rfl|exact Co_bb rfl rfl rfl|exact Co_nn rfl);exact rfl;(with_reducible exact zAe);exact fun _=>rfl;rotate_left;intro v hv;rotate_right)|refine ayA rfl ?_|apply ay (hd:=rfl)|exact zCt rfl rfl|refine zBN rfl rfl ?_|(apply zA3;exact rfl;all_goals intro hb)|(apply zCd;exact rfl;all_goals intro hb)|apply zAH|apply zAM|apply zAN|apply zAz|apply en_r|apply en_e|apply eb_n|apply eb_r|apply eb_e|apply zAO|refine res1 rfl ?_
 ·omega
 ·exact zCm (zGE hi2 hv hb).symm
 ·omega
 ·refine⟨i+1,⟨by omega,fun j u hj hu=>?_⟩,by omega,zAV (Le_all rfl) zAW rfl rfl⟩
  rcases qAF j i with h1|h1
  ·exact hi2 j u h1 hu
  ·have hv':L[i]?=some v:=hv
   rw[show j=i by omega,hv']at hu;injection hu with hu;subst hu;exact hb
 ·exact zCm (zD3 fun j u hu=>hi2 j u (by have:=(qAA.1 hu).1;omega) hu).symm
theorem zdP{fd:D}{p:Nd->Bool}(hp:∀u,VCall prog fd [u.av] (bl (p u)))(L:List (Nd))(hL:L.length<=2000000):
  zAX prog 141 [zAu L,fd] (i64 (idxP p L)):=zcZ (fun _ v _=>hp v) hL
theorem zdU{fd:D}{p:Nd->Bool}(hp:∀u,VCall prog fd [u.av] (bl (p u)))(L:List (Nd))(hL:L.length<=2000000):
  zAX prog 74 [zAu L,fd] (bl (L.any p)):=by
 refine zAc func74 rfl ntmps74 results74 rfl ?_
 intro wb St0
 exact yl
theorem zca{fd:D}{p:Int->Bool}{L:List (Int)}(hp:∀(i:Nat) v,L[i]?=some v->VCall prog fd [(fun u:Int=>i64 u) v] (bl (p v)))(hL:L.length<=2000000):
  zAX prog 171 [zBq L,fd] (i64 (idxP p L)):=by
 refine zAc func171 rfl ntmps171 results171 rfl ?_
 intro wb St0
 repeat' first|apply en_n|apply zAE|apply zAA|apply zAD|apply w0|refine ayA rfl ?_|apply zAH
 refine zAt (α:=Nat) (fun i=>i<=L.length/\∀(j:Nat) u,j<i->L[j]?=some u->p u=false) (fun i=>[(0,.d (zBq L)),(1,.d fd),(7,.d (i64 (L.length:Int))),(8,.d (i64 (i:Int)))]) (fun _=>[]) (fun i=>L.length-i) 0 ⟨qAO _,fun j u h=>by omega⟩
  (zAV (Le_cons rfl (Le_cons rfl (Le_d rfl rfl (Le_all rfl)))) zAW rfl rfl) ?_
 rintro i ⟨hi1,hi2⟩
 repeat' first|apply en_n|apply zAE|apply zAA|apply zAD|apply w0|(refine zE8 (hp i v hv) rfl (zAL rfl zAF))|(apply aI (hd:=rfl);(first|exact zAr rfl|exact Co_bb rfl rfl rfl|exact Co_nn rfl);exact rfl;(with_reducible exact zBK);exact fun _=>rfl;rotate_left;intro v hv;rotate_right)|refine ayA rfl ?_|apply ay (hd:=rfl)|exact zCt rfl rfl|refine zBN rfl rfl ?_|(apply zA3;exact rfl;all_goals intro hb)|(apply zCd;exact rfl;all_goals intro hb)|apply zAH|apply zAM|apply zAN|apply zAz|apply en_r|apply en_e|apply eb_n|apply eb_r|apply eb_e|apply zAO|refine res1 rfl ?_
 ·omega
 ·exact zCm (zGE hi2 hv hb).symm
 ·omega
 ·refine⟨i+1,⟨by omega,fun j u hj hu=>?_⟩,by omega,zAV (Le_all rfl) zAW rfl rfl⟩
  rcases qAF j i with h1|h1
  ·exact hi2 j u h1 hu
  ·have hv':L[i]?=some v:=hv
   rw[show j=i by omega,hv']at hu;injection hu with hu;subst hu;exact hb
 ·exact zCm (zD3 fun j u hu=>hi2 j u (by have:=(qAA.1 hu).1;omega) hu).symm
theorem zdQ{fd:D}{p:Int->Bool}(hp:∀u,VCall prog fd [i64 u] (bl (p u)))(L:List (Int))(hL:L.length<=2000000):
  zAX prog 171 [zBq L,fd] (i64 (idxP p L)):=zca (fun _ v _=>hp v) hL
theorem zdV{fd:D}{p:Int->Bool}(hp:∀u,VCall prog fd [i64 u] (bl (p u)))(L:List (Int))(hL:L.length<=2000000):
  zAX prog 137 [zBq L,fd] (bl (L.any p)):=by
 refine zAc func137 rfl ntmps137 results137 rfl ?_
 intro wb St0
 exact yl
theorem zcX{fd:D}{p:List UInt8->Bool}{L:List (List UInt8)}(hp:∀(i:Nat) v,L[i]?=some v->VCall prog fd [(fun u:List UInt8=>str u) v] (bl (p v)))(hL:L.length<=2000000):
  zAX prog 142 [strs L,fd] (i64 (idxP p L)):=by
 refine zAc func142 rfl ntmps142 results142 rfl ?_
 intro wb St0
 repeat' first|apply en_n|apply zAE|apply zAA|apply zAD|apply w0|refine ayA rfl ?_|apply zAH
 refine zAt (α:=Nat) (fun i=>i<=L.length/\∀(j:Nat) u,j<i->L[j]?=some u->p u=false) (fun i=>[(0,.d (strs L)),(1,.d fd),(7,.d (i64 (L.length:Int))),(8,.d (i64 (i:Int)))]) (fun _=>[]) (fun i=>L.length-i) 0 ⟨qAO _,fun j u h=>by omega⟩
  (zAV (Le_cons rfl (Le_cons rfl (Le_d rfl rfl (Le_all rfl)))) zAW rfl rfl) ?_
 rintro i ⟨hi1,hi2⟩
 repeat' first|apply en_n|apply zAE|apply zAA|apply zAD|apply w0|(refine zE8 (hp i v hv) rfl (zAL rfl zAF))|(apply aI (hd:=rfl);(first|exact zAr rfl|exact Co_bb rfl rfl rfl|exact Co_nn rfl);exact rfl;(with_reducible first|exact zA6|exact zA6);exact fun _=>rfl;rotate_left;intro v hv;rotate_right)|refine ayA rfl ?_|apply ay (hd:=rfl)|exact zCt rfl rfl|refine zBN rfl rfl ?_|(apply zA3;exact rfl;all_goals intro hb)|(apply zCd;exact rfl;all_goals intro hb)|apply zAH|apply zAM|apply zAN|apply zAz|apply en_r|apply en_e|apply eb_n|apply eb_r|apply eb_e|apply zAO|refine res1 rfl ?_
 ·omega
 ·exact zCm (zGE hi2 hv hb).symm
 ·omega
 ·refine⟨i+1,⟨by omega,fun j u hj hu=>?_⟩,by omega,zAV (Le_all rfl) zAW rfl rfl⟩
  rcases qAF j i with h1|h1
  ·exact hi2 j u h1 hu
  ·have hv':L[i]?=some v:=hv
   rw[show j=i by omega,hv']at hu;injection hu with hu;subst hu;exact hb
 ·exact zCm (zD3 fun j u hu=>hi2 j u (by have:=(qAA.1 hu).1;omega) hu).symm
theorem zdO{fd:D}{p:List UInt8->Bool}(hp:∀u,VCall prog fd [str u] (bl (p u)))(L:List (List UInt8))(hL:L.length<=2000000):
  zAX prog 142 [strs L,fd] (i64 (idxP p L)):=zcX (fun _ v _=>hp v) hL
theorem zdT{fd:D}{p:List UInt8->Bool}(hp:∀u,VCall prog fd [str u] (bl (p u)))(L:List (List UInt8))(hL:L.length<=2000000):
  zAX prog 75 [strs L,fd] (bl (L.any p)):=by
 refine zAc func75 rfl ntmps75 results75 rfl ?_
 intro wb St0
 exact yl
theorem zcd{fd:D}{p:Nat->Bool}{L:List (Nat)}(hp:∀(i:Nat) v,L[i]?=some v->VCall prog fd [(fun u:Nat=>biD u) v] (bl (p v)))(hL:L.length<=2000000):
  zAX prog 144 [bis L,fd] (i64 (idxP p L)):=by
 refine zAc func144 rfl ntmps144 results144 rfl ?_
 intro wb St0
 repeat' first|apply en_n|apply zAE|apply zAA|apply zAD|apply w0|refine ayA rfl ?_|apply zAH
 refine zAt (α:=Nat) (fun i=>i<=L.length/\∀(j:Nat) u,j<i->L[j]?=some u->p u=false) (fun i=>[(0,.d (bis L)),(1,.d fd),(7,.d (i64 (L.length:Int))),(8,.d (i64 (i:Int)))]) (fun _=>[]) (fun i=>L.length-i) 0 ⟨qAO _,fun j u h=>by omega⟩
  (zAV (Le_cons rfl (Le_cons rfl (Le_d rfl rfl (Le_all rfl)))) zAW rfl rfl) ?_
 rintro i ⟨hi1,hi2⟩
 repeat' first|apply en_n|apply zAE|apply zAA|apply zAD|apply w0|(refine zE8 (hp i v hv) rfl (zAL rfl zAF))|(apply aI (hd:=rfl);(first|exact zAr rfl|exact Co_bb rfl rfl rfl|exact Co_nn rfl);exact rfl;(with_reducible exact zHk);exact fun _=>rfl;rotate_left;intro v hv;rotate_right)|refine ayA rfl ?_|apply ay (hd:=rfl)|exact zCt rfl rfl|refine zBN rfl rfl ?_|(apply zA3;exact rfl;all_goals intro hb)|(apply zCd;exact rfl;all_goals intro hb)|apply zAH|apply zAM|apply zAN|apply zAz|apply en_r|apply en_e|apply eb_n|apply eb_r|apply eb_e|apply zAO|refine res1 rfl ?_
 ·omega
 ·exact zCm (zGE hi2 hv hb).symm
 ·omega
 ·refine⟨i+1,⟨by omega,fun j u hj hu=>?_⟩,by omega,zAV (Le_all rfl) zAW rfl rfl⟩
  rcases qAF j i with h1|h1
  ·exact hi2 j u h1 hu
  ·have hv':L[i]?=some v:=hv
   rw[show j=i by omega,hv']at hu;injection hu with hu;subst hu;exact hb
 ·exact zCm (zD3 fun j u hu=>hi2 j u (by have:=(qAA.1 hu).1;omega) hu).symm
theorem zdR{fd:D}{p:Nat->Bool}(hp:∀u,VCall prog fd [biD u] (bl (p u)))(L:List (Nat))(hL:L.length<=2000000):
  zAX prog 144 [bis L,fd] (i64 (idxP p L)):=zcd (fun _ v _=>hp v) hL
end Go.Proofs.YtjcgiiedaccjpaaGreatDoor
namespace Go.Proofs.YtjcgiiedaccjpaaGreatDoor
open _root_.Go.Proofs.Tryz
open Go.Sx
theorem zJn{P:Program}{f:FuncId}{cs ds:List D}{res:D}(hb:zAQ P f=true)(hc:zAX P f (ds++cs) res): VCall P (.clo f cs) ds res:=⟨_,_,rfl,hb,hc⟩
attribute [local irreducible] zAQ Program.underlying Ylds zBJ alex zBk zBZ awp zAX FCall zBo zBR zBX zBb zBD zBd zBj zBn zBu zBP VCall
theorem zLA(s:List UInt8): zAX prog 69 [str s] (bl (conF s)):=by
 refine zAc func69 rfl ntmps69 results69 rfl ?_
 intro wb St0
 repeat' first|apply en_n|apply zAE|apply zAA|apply zAD|apply w0|exact zAo zKh zEq (PD_d rfl rfl (PD_d rfl rfl zBE)) rfl|exact ycA zIl (zI4 ⟨2,s,0,0⟩)|refine ayA rfl ?_|apply ay (hd:=rfl)|apply zAN|apply zAO|refine res1 rfl ?_
 rfl
theorem zSF(d:Dt)(v:Int): zAX prog 136 [i64 v,.ref d.cells] (bl (decide (d.params<=v))):=by
 refine zAc func136 rfl ntmps136 results136 rfl ?_
 intro wb St0
 exact yk
abbrev hiD(d:Dt): D:=.clo 136 [.ref d.cells]
theorem zT5(d:Dt)(t:List Nd)(ht:t.length<=2000000): zAX prog 135 [zAu t,.ref d.cells] (bl (argF d.params t)):=by
 have hc:=zI5 t ht
 have hv:=za0 t ht
 have hl:(zJo t).length<=2000000:=by
  unfold zJo;split
  ·have:=zKP t [];simp at this;unfold zEf;omega
  ·exact qAO _
 have hF:zAX prog 137 [zBq (zJo t),hiD d] (bl ((zJo t).any fun v=>decide (d.params<=v))):=zdV (fun u=>zJn zSZ (zSF d u)) (zJo t) hl
 unfold argF
 generalize (zJo t).any (fun v=>decide (d.params<=v))=a at *
 generalize zJo t=vs at *
 unfold ckT at hc
 cases h:okT t with
 |true =>
  rw[if_pos h]at hc
  refine zAc func135 rfl ntmps135 results135 rfl ?_
  intro wb St0
  repeat' first|apply en_n|apply zAE|apply zAA|apply zAD|apply w0|(refine zHQ (zAL rfl zAF))|exact ycA zG1 hc|exact ycA zaG hv|exact ycA zbo hF|refine ayA rfl ?_|refine ayQ rfl ?_|apply ay (hd:=rfl)|refine w1 rfl rfl ?_|apply zAN|apply zAO|refine res1 rfl ?_
  all_goals exact zCX (by first|rfl|simp)
 |false =>
  rw[if_neg (by rw[h];decide)]at hc
  refine zAc func135 rfl ntmps135 results135 rfl ?_
  intro wb St0
  repeat' first|apply en_n|apply zAE|apply zAA|apply zAD|apply w0|refine k1u (hd:=rfl) rfl rfl ?_|(refine zHQ (zAL rfl zAF))|exact ycA zG1 hc|refine ayA rfl ?_|refine ayQ rfl ?_|apply ay (hd:=rfl)|apply zAN|apply zAO|refine res1 rfl ?_
  all_goals exact zCX (by first|rfl|simp)
abbrev argD(d:Dt): D:=.clo 135 [.ref d.cells]
theorem zT4(d:Dt)(t:List Nd)(ht:t.length<=2000000): zAX prog 139 [zAu t,.ref [argD d]] (bl (!argF d.params t)):=by
 have hc:VCall prog (argD d) [zAu t] (bl (argF d.params t)):=zJn zUz (zT5 d t ht)
 refine zAc func139 rfl ntmps139 results139 rfl ?_
 intro wb St0
 exact yk
theorem zFD{d:Dt}(h:conF d.name=false\/d.params<0\/d.params>8\/(d.cons.length:Int)<1\/(d.cons.length:Int)>60\/∃c∈d.cons,zEx d.params c=false): zCj d=false:=by
 cases hq:zCj d with
 |false=>rfl
 |true =>
  unfold zCj at hq
  simp only[qAR,decide_eq_true_eq]at hq
  obtain⟨⟨h1,h2⟩,h3⟩:=hq
  rcases h with h|h|h|h|h|⟨c,hc,h⟩
  ·rw[h]at h1;cases h1
  ·omega
  ·omega
  ·omega
  ·omega
  ·rw[qAI.1 h3 c hc]at h;cases h
theorem zKZ{p:Int}{c:Ct}(h:conF c.name=false\/(c.args.length:Int)>8\/(c.args.any fun t=>!argF p t)=true): zEx p c=false:=by
 cases hq:zEx p c with
 |false=>rfl
 |true =>
  unfold zEx at hq
  simp only[qAR,decide_eq_true_eq]at hq
  obtain⟨⟨h1,h2⟩,h3⟩:=hq
  rcases h with h|h|h
  ·rw[h]at h1;cases h1
  ·omega
  ·rw[h]at h3;cases h3
theorem zT3{p:Int}{c:Ct}(h1:conF c.name=true)(h2:¬(c.args.length:Int)>8)(h3:(c.args.any fun t=>!argF p t)=false): zEx p c=true:=by
 unfold zEx
 rw[h1,h3,decide_eq_true oM];rfl
theorem zVg(d:Dt)(hc:d.cons.length<=2000000)(ha:∀c∈d.cons,c.args.length<=2000000/\∀t∈c.args,t.length<=2000000): zAX prog 63 [d.av] (bl (zCj d)):=by
 have hF:∀c∈d.cons,zAX prog 72 [zC0 c.args,.clo 139 [.ref [argD d]]] (bl (c.args.any fun t=>!argF d.params t)):=fun c hc=>by
  obtain⟨h1,h2⟩:=ha c hc
  exact zWT (fun u hu=>zJn zUy (zT4 d u (h2 u hu))) h1
 refine zAc func63 rfl ntmps63 results63 rfl ?_
 intro wb St0
 repeat' first|(apply ay (hd:=rfl);apply zDr;exact rfl;exact rfl)|(refine zJW (ds:=[argD d]) 0 3 rfl rfl rfl ?_)|apply en_n|apply zAE|apply zAA|apply zAD|apply w0|refine k0u (hd:=rfl) rfl rfl ?_|(refine zHQ (zAL rfl zAF))|(apply zEe;exact rfl;(with_reducible first|exact zC4|exact zDo|exact zBt))|exact ycA zMx (zLA _)|refine aAlA ?_|refine ayA rfl ?_|apply ay (hd:=rfl)|exact zCt rfl rfl|exact zF4 rfl rfl|refine w1 rfl rfl ?_|(apply gD;exact rfl;exact rfl;all_goals intro hb)|(apply g1;exact rfl;exact rfl;all_goals intro hb)|(refine w0' ?_)|refine aStA ?_|(apply zA3;exact rfl;all_goals intro hb)|refine zAJ rfl ?_|apply zAH|apply zAM|apply zAN|apply en_r|apply zAO|refine res1 rfl ?_
 all_goals first|exact zCX (zFD (.inl (by simpa using hb))).symm|exact zCX (zFD (.inr (.inl hb))).symm|exact zCX (zFD (.inr (.inr (.inl hb)))).symm|exact zCX (zFD (.inr (.inr (.inr (.inl hb))))).symm|exact zCX (zFD (.inr (.inr (.inr (.inr (.inl hb)))))).symm|skip
 rename_i g1' g2' g3' g4'
 refine zAt (α:=Nat) (fun i=>i<=d.cons.length/\∀(j:Nat) c,j<i->d.cons[j]?=some c->zEx d.params c=true) (fun i=>[(3,.d (.ref [argD d])),(35,.d (cts d.cons)),(36,.d (i64 (d.cons.length:Int))),(37,.d (i64 (i:Int)))]) (fun _=>[]) (fun i=>d.cons.length-i) 0 ⟨qAO _,fun j u h=>by omega⟩
  (zAV (Le_cons rfl (Le_cons rfl (Le_d rfl rfl (Le_all rfl)))) zAW rfl rfl) ?_
 rintro i ⟨hi1,hi2⟩
 repeat' first|apply en_n|apply zAE|apply zAA|apply zAD|apply w0|refine k0u (hd:=rfl) rfl rfl ?_|(refine zHQ (zAL rfl zAF))|exact ycA zMx (zLA _)|exact ycA zUu (hF v (qAC hv))|(apply aI (hd:=rfl);(first|exact zAr rfl|exact Co_bb rfl rfl rfl|exact Co_nn rfl);exact rfl;(with_reducible exact zDW);exact fun _=>rfl;rotate_left;intro v hv;rotate_right)|refine aAlA ?_|refine ayA rfl ?_|apply ay (hd:=rfl)|exact zCt rfl rfl|exact zF4 rfl rfl|refine zBN rfl rfl ?_|refine w1 rfl rfl ?_|(apply gD;exact rfl;exact rfl;all_goals intro hb)|(apply g1;exact rfl;exact rfl;all_goals intro hb)|(refine w0' ?_)|refine aStA ?_|(apply zA3;exact rfl;all_goals intro hb)|refine zAJ rfl ?_|(apply zCd;exact rfl;all_goals intro hb)|apply zAH|apply zAM|apply zAN|apply zAz|apply en_r|apply en_e|apply eb_n|apply eb_r|apply eb_e|apply zAO|refine res1 rfl ?_
 ·omega
 ·exact zCX (zFD (.inr (.inr (.inr (.inr (.inr ⟨v,qAC hv,zKZ (.inl (by simpa using hb))⟩)))))).symm
 ·exact zCX (zFD (.inr (.inr (.inr (.inr (.inr ⟨v,qAC hv,zKZ (.inr (.inl hb))⟩)))))).symm
 ·exact zCX (zFD (.inr (.inr (.inr (.inr (.inr ⟨v,qAC hv,zKZ (.inr (.inr hb))⟩)))))).symm
 ·omega
 ·rename_i k1' k2' k3'
  refine⟨i+1,⟨by omega,fun j u hj hu=>?_⟩,by omega,zAV (Le_all rfl) zAW rfl rfl⟩
  rcases qAF j i with h1|h1
  ·exact hi2 j u h1 hu
  ·have hv':d.cons[i]?=some v:=hv
   rw[show j=i by omega,hv']at hu;injection hu with hu;subst hu
   exact zT3 (by simpa using k2') k3' hb
 ·refine zCX ?_
  unfold zCj
  rw[show conF d.name=true by simpa using g1',decide_eq_true oM]
  exact(qAI.2 fun c hc=>by
   obtain⟨j,hj⟩:=qBA.1 hc
   exact hi2 j c pAL hj).symm
theorem zSy(d:Dt)(hc:d.cons.length<=2000000)(ha:∀c∈d.cons,c.args.length<=2000000/\∀t∈c.args,t.length<=2000000): zAX prog 62 [d.av] (bl (!zCj d)):=by
 have h:=zVg d hc ha
 refine zAc func62 rfl ntmps62 results62 rfl ?_
 intro wb St0
 exact yk
theorem zSx(d u:Dt): zAX prog 65 [u.av,.ref d.cells] (bl (decide (u.name=d.name))):=by
 refine zAc func65 rfl ntmps65 results65 rfl ?_
 intro wb St0
 exact yk
theorem zP7(n:Nd)(u:Dt): zAX prog 70 [u.av,.ref n.av.flat] (bl (decide (u.name=n.text/\u.params=n.kids))):=by
 refine zAc func70 rfl ntmps70 results70 rfl ?_
 intro wb St0
 repeat' first|(apply ay (hd:=rfl);apply zDr;exact rfl;exact rfl)|apply en_n|apply zAE|apply zAA|apply zAD|apply w0|refine k1u (hd:=rfl) rfl rfl ?_|exact zHt rfl rfl|(apply zEe;exact rfl;(with_reducible first|exact zC4|exact zDo|exact fn_1|exact fn_3))|refine ayA rfl ?_|apply ay (hd:=rfl)|exact zDz rfl rfl|refine w1 rfl rfl ?_|(apply gD;exact rfl;exact rfl;all_goals intro hb)|apply zAN|apply zAO|refine res1 rfl ?_
 ·exact zCX (by rw[decide_eq_decide];exact⟨fun h=>⟨hb,h⟩,fun h=>h.2⟩)
 ·exact zCX (by symm;rw[decide_eq_false_iff_not];exact fun h=>hb h.1)
abbrev zSL(l:List Dt): D:=.clo 68 [.ref [dts l]]
theorem zSv(l:List Dt)(hl:l.length<=2000000)(n:Nd): zAX prog 68 [n.av,.ref [dts l]] (bl (zHK l n)):=by
 have hF:zAX prog 61 [dts l,.clo 70 [.ref n.av.flat]] (bl (zJf l n)):=zdW (fun u=>zJn zSb (zP7 n u)) l hl
 refine zAc func68 rfl ntmps68 results68 rfl ?_
 intro wb St0
 unfold zHK
 generalize zJf l n=q at *
 repeat' first|(apply ay (hd:=rfl);apply zDr;exact rfl;exact rfl)|apply en_n|apply zAE|apply zAA|apply zAD|apply w0|refine k0u (hd:=rfl) rfl rfl ?_|(refine zHQ (zAL rfl zAF))|(apply zEe;exact rfl;(with_reducible first|exact fn_0|exact fn_1))|exact zDu rfl zFS|exact ycA zMx (zLA _)|exact ycA zYo hF|refine ayA rfl ?_|apply ay (hd:=rfl)|exact zEp rfl rfl|refine w1 rfl rfl ?_|(apply gD;exact rfl;exact rfl;all_goals intro hb)|refine zAJ rfl ?_|(apply zCd;exact rfl;all_goals intro hb)|apply zAM|apply zAN|apply en_r|apply zAO|refine res1 rfl ?_
 ·exact zCX (by rw[decide_eq_false hb];rfl)
 ·exact zCX (by rw[show conF n.text=false by simpa using hb];simp)
 ·rename_i h1
  exact zCX (by rw[decide_eq_true oM,show conF n.text=true by simpa using hb];rfl)
theorem zP6(l:List Dt)(hl:l.length<=2000000)(t:List Nd)(ht:t.length<=2000000): zAX prog 73 [zAu t,.ref [zSL l]] (bl (t.any (zHK l))):=by
 have hF:zAX prog 74 [zAu t,zSL l] (bl (t.any (zHK l))):=zdU (fun u=>zJn zU1 (zSv l hl u)) t ht
 refine zAc func73 rfl ntmps73 results73 rfl ?_
 intro wb St0
 exact yk
theorem zG7{l:List Dt}{i k:Nat}{d:Dt}{c:Ct}(hd:l[i]?=some d)(hc:d.cons[k]?=some c): zHs l i k=c:=by
 unfold zHs
 rw[qAL,qAL,hd,qBE,hc,qBE]
theorem zSu(l:List Dt)(hl:l.length<=2000000){i k:Nat}{d:Dt}{c:Ct}(hd:l[i]?=some d)(hc:d.cons[k]?=some c)(_hk:d.cons.length<=2000000)(ha:c.args.length<=2000000/\∀t∈c.args,t.length<=2000000):
  zAX prog 71 [i64 (i:Int),i64 (k:Int),.ref [dts l],.ref [zSL l]] (bl (zHu l i k)):=by
 have hF:zAX prog 72 [zC0 c.args,.clo 73 [.ref [zSL l]]] (bl (c.args.any fun t=>t.any (zHK l))) :=
  zWT (fun t ht=>zJn zSa (zP6 l hl t (ha.2 t ht))) ha.1
 unfold zHu
 rw[zG7 hd hc]
 have hi:=(qAA.1 hd).1
 have hj:=(qAA.1 hc).1
 have hd':l[(i:Int).toNat]?=some d:=hd
 have hc':d.cons[(k:Int).toNat]?=some c:=hc
 refine zAc func71 rfl ntmps71 results71 rfl ?_
 intro wb St0
 exact yh
theorem zYv{fd:D}{p:Nat->Nat->Bool}{l:List Dt}(hp:∀(i k:Nat) d,l[i]?=some d->k<d.cons.length->VCall prog fd [i64 (i:Int),i64 (k:Int)] (bl (p i k)))(hl:l.length<=2000000)(hc:∀d∈l,d.cons.length<=2000000):
  zAX prog 67 [dts l,fd] (bl (zEG p 0 l).isSome):=by
 refine zAc func67 rfl ntmps67 results67 rfl ?_
 intro wb St0
 repeat' first|apply en_n|apply zAE|apply zAA|apply zAD|apply w0|refine ayA rfl ?_|apply zAH
 refine zAt (α:=Nat) (fun i=>i<=l.length/\∀(j:Nat) d,j<i->l[j]?=some d->∀k,k<d.cons.length->p j k=false) (fun i=>[(1,.d fd),(8,.d (dts l)),(9,.d (i64 (l.length:Int))),(10,.d (i64 (i:Int)))]) (fun _=>[]) (fun i=>l.length-i) 0 ⟨qAO _,fun j u h=>by omega⟩
  (zAV (Le_cons rfl (Le_cons rfl (Le_d rfl rfl (Le_all rfl)))) zAW rfl rfl) ?_
 rintro i ⟨hi1,hi2⟩
 repeat' first|apply en_n|apply zAE|apply zAA|apply zAD|apply w0|(apply aI (hd:=rfl);(first|exact zAr rfl|exact Co_bb rfl rfl rfl|exact Co_nn rfl);exact rfl;(with_reducible exact zCN);exact fun _=>rfl;rotate_left;intro v hv;rotate_right)|refine aAlA ?_|refine ayA rfl ?_|apply ay (hd:=rfl)|exact zCt rfl rfl|(refine w0' ?_)|refine aStA ?_|(apply zA3;exact rfl;all_goals intro hb)|apply zAH|apply zAM|apply zAN|apply zAz|apply en_e|apply eb_e|apply zAO|refine res1 rfl ?_
 ·omega
 ·obtain⟨d,hd⟩:∃d,l[i]?=some d:=⟨_,hv⟩
  have hvd:v=d:=by have h:l[i]?=some v:=hv;rw[hd]at h;injection h with h;exact h.symm
  subst hvd
  have hw:=hv;clear hv
  have hcd:=hc v (qAC hd)
  refine zAt (α:=Nat) (fun k=>k<=v.cons.length/\∀k',k'<k->p i k'=false) (fun k=>[(1,.d fd),(5,.d (i64 (i:Int))),(8,.d (dts l)),(9,.d (i64 (l.length:Int))),(10,.d (i64 (i:Int))),(17,.d (i64 (v.cons.length:Int))),(18,.d (i64 (k:Int)))]) (fun _=>[]) (fun k=>v.cons.length-k) 0 ⟨qAO _,fun j h=>by omega⟩
   (zAV (Le_cons rfl (Le_cons rfl (Le_cons rfl (Le_cons rfl (Le_cons rfl (Le_d rfl rfl (Le_all rfl))))))) zAW rfl rfl) ?_
  rintro k ⟨hk1,hk2⟩
  have hq:=fun hk=>hp i k v hd hk
  repeat' first|apply en_n|apply zAE|apply zAA|apply zAD|apply w0|(refine zE8 (hq oM) rfl (zAL rfl (zAL rfl zAF)))|refine ayA rfl ?_|apply ay (hd:=rfl)|exact zCt rfl rfl|refine zBN rfl rfl ?_|(apply zA3;exact rfl;all_goals intro hb)|(apply zCd;exact rfl;all_goals intro hb)|apply zAH|apply zAM|apply zAN|apply zAz|apply en_r|apply en_e|apply eb_n|apply eb_r|apply eb_e|apply zAO|refine res1 rfl ?_
  ·exact zCX (by rw[zIt (k:=k) hd oM (fun i' d' h1 h2 k' h3=>by rw[qAS];exact hi2 i' d' h1 h2 k' h3) (fun k' h=>by rw[qAS];exact hk2 k' h) (by rw[qAS];exact hb)];rfl)
  ·omega
  ·refine⟨k+1,⟨by omega,fun k' h=>?_⟩,by omega,zAV (Le_all rfl) zAW rfl rfl⟩
   rcases qAF k' k with h1|h1
   ·exact hk2 k' h1
   ·rw[show k'=k by omega];exact hb
  ·omega
  ·refine⟨i+1,⟨by omega,fun j d h h2 k' h3=>?_⟩,by omega,zAV (Le_all rfl) zAW rfl rfl⟩
   rcases qAF j i with h1|h1
   ·exact hi2 j d h1 h2 k' h3
   ·have e:j=i:=by omega
    subst e
    rw[hd]at h2;injection h2 with h2;subst h2
    exact hk2 k' oM
 ·exact zCX (by rw[zGj fun j d h k hk=>by rw[qAS];exact hi2 j d (by have:=(qAA.1 h).1;omega) h k hk];rfl)
end Go.Proofs.YtjcgiiedaccjpaaGreatDoor
namespace Go.Ev
variable {shw:Int->List UInt8}
