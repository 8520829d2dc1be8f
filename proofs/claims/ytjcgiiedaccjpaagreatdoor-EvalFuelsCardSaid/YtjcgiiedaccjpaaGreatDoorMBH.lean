/- Parts. -/
import Derived.Test.YtjcgiiedaccjpaaGreatDoorMBE
import Derived.Test.YtjcgiiedaccjpaaGreatDoorMBG
set_option maxHeartbeats 16000000
namespace Go.Proofs.YtjcgiiedaccjpaaGreatDoor
open _root_.Go.Proofs.Tryz
open Go.Sx Go.Ev
theorem zUT{C:Ctx}{Q:Exit->Sl->List Ob->Prop}{σ:Sl}{η:List Ob}{id:Nat}{ops:Array Oper}{dr:Bool}{c:Code}(h:Stop (awp C ((Code.region id ops dr).seq c) Q σ η)): awp C ((Code.region id ops dr).seq c) Q σ η:=by
 unfold Stop at h;exact h
attribute [local irreducible] zAK Program.underlying Ylds zA3 alex zBc zBL awp zAc zBd zBi zBD zBI zDI zBS zA5 zBT zBY zBe zBs zC7 zBN VCall
theorem zUe(R:Rn)(s:S)(bs:List Nat)(hbs:bs.length=s.cells.length)(a:V)(r:List D)(hn:∀n,a≠.num n): R.To 106 [.ptr 0 0,.d (.slice (encV bs a::r))] s bs (s.stop 4).2 (fun _=>encV [] (.num 0)):=by
 have hs:=zEF R s bs hbs 4
 obtain⟨d1,e1⟩:=zCR bs a
 have h1:=zFq hn
 clear hn
 rw[e1]
 generalize tyV a=t1 at *
 refine Rn.to_of hbs func106 rfl ntmps106 results106 rfl ?_
 intro wb St0 X fx
 exact yO
theorem zUa(R:Rn)(s:S)(bs:List Nat)(hbs:bs.length=s.cells.length)(a:V)(r:List D)(hn:∀n,a≠.text n): R.To 108 [.ptr 0 0,.d (.slice (encV bs a::r))] s bs (s.stop 4).2 (fun _=>encV [] (.num 0)):=by
 have hs:=zEF R s bs hbs 4
 obtain⟨d1,e1⟩:=zCR bs a
 have h1:=zHQ hn
 clear hn
 rw[e1]
 generalize tyV a=t1 at *
 refine Rn.to_of hbs func108 rfl ntmps108 results108 rfl ?_
 intro wb St0 X fx
 exact yO
theorem zUd(R:Rn)(s:S)(bs:List Nat)(hbs:bs.length=s.cells.length)(x:Int)(ho:s.out.length<=1000000): R.To 106 [.ptr 0 0,.d (.slice [encV bs (.num x)])] s bs (s.put (shw (W x))) (fun _=>encV [] (.num x)):=by
 refine Rn.to_of hbs func106 rfl ntmps106 results106 rfl ?_
 intro wb St0 X fx
 repeat' first|(refine zUT (id:=4) ?_)|(refine zBj (zs:=[.int .i64 0]) (hidL (zA2 bs s.cells)) 2 (zAh _) ?_ rfl rfl rfl rfl rfl rfl rfl ?_;with_reducible exact zBR)|apply en_n|apply zAE|apply zAA|apply zAD|apply w0|(apply zBv;exact rfl;exact rfl;(with_reducible exact zBK);exact(by decide);exact rfl;exact rfl;exact(by decide))|(apply zDh;exact rfl;with_reducible exact zBq)|apply ay (hd:=rfl)|exact zAC rfl|exact zAB rfl|exact zAR rfl zB0|exact zBX rfl|exact zAe rfl rfl|(refine w0' ?_)|(apply zAl;exact rfl;exact rfl;exact rfl;(with_reducible exact zCp);exact rfl;exact rfl;exact rfl;exact rfl)|refine zAQ rfl ?_|apply zAO
 refine Stop.go ?_
 refine zAE ?_
 refine zKr [.ptr 0 0,.ptr 0 0,.ptr 0 0,.ptr 0 (0+4),.buf 1 s.out.length,.ptr 2 (0+0),.d (i64 x),.d (str (shw (W x))),.d (.slice [str (shw (W x))]),.buf 1 (s.out.length+1),.ptr 0 0,.ptr 0 (0+4),.top] [9,12]
  [[.bx (fx 0) none [.d (zAm R.L),.d (dts R.T),.d (i64 (R.fuel:Int)),.d (i64 (s.steps:Int)),.buf 1 s.out.length,.d (i64 s.fin),.d (i64 s.raised)],.buf true 9 1 (s.out.map str),.box [.d (i64 x)]]++hidL (zA2 bs s.cells),[.bx (fx 0) none [.d (zAm R.L),.d (dts R.T),.d (i64 (R.fuel:Int)),.d (i64 (s.steps:Int)),.top,.d (i64 s.fin),.d (i64 s.raised)],.buf true 9 1 (s.out.map str++[str (shw (W x))]),.box [.d (i64 x)]]++hidL (zA2 bs s.cells),[.bx (fx 0) none [.d (zAm R.L),.d (dts R.T),.d (i64 (R.fuel:Int)),.d (i64 (s.steps:Int)),.buf 1 (s.out.length+1),.d (i64 s.fin),.d (i64 s.raised)],.buf true 9 1 (s.out.map str++[str (shw (W x))]),.box [.d (i64 x)]]++hidL (zA2 bs s.cells)] 9 [22] (nobB 1) rfl (by decide +kernel) (zOx rfl rfl) (by kernel_rfl) (by kernel_rfl) rfl (.inl rfl) rfl (by kernel_rfl) rfl rfl ?_ ?_
 ·refine zCL rfl rfl rfl (fun η=>zAG rfl) ?_
  refine zCL rfl rfl rfl (fun η=>zAG rfl) ?_
  refine zCL rfl rfl rfl (fun η=>zAS rfl) ?_
  refine zCL rfl rfl rfl (fun η=>zAH rfl zDd) ?_
  refine zMH rfl rfl rfl (by decide +kernel) (by decide +kernel) rfl (zAJ rfl zCH rfl rfl) ?_
  refine zCL rfl rfl rfl (fun η=>zAH rfl zD5) ?_
  refine zMH rfl rfl rfl (by decide +kernel) (by decide +kernel) rfl (zAJ rfl zCn rfl rfl) ?_
  refine zCL rfl rfl rfl (fun η=>zAU zRN (zQs x) (zAP rfl zAF)) ?_
  refine zCL rfl rfl rfl (fun η=>zCi zBy zBZ zED rfl rfl (zAP rfl zAF) rfl) ?_
  refine zMG (ys:=[str (shw (W x))]) (m:=1) 0 rfl rfl rfl rfl rfl rfl (qAK _).symm rfl zBy zBZ zHJ zFl rfl rfl (zDK rfl) (by omega) ?_ ?_
  ·show _=(zD2 1 (_++hidL _)).set 1 _
   rw[zHi,zHh];rfl
  refine zCL rfl rfl rfl (fun η=>zAS rfl) ?_
  refine zCL rfl rfl rfl (fun η=>zAH rfl zDd) ?_
  refine zIO 1 rfl rfl rfl rfl rfl zCH rfl rfl rfl rfl rfl rfl ?_
  exact zMF
 skip
 repeat' first|(refine zBC 4 2 1 rfl rfl rfl rfl rfl rfl rfl ?_)|apply en_n|apply zAE|apply zAA|apply zAD|apply w0|(apply zCY;exact rfl;with_reducible exact zBq)|apply ay (hd:=rfl)|exact zAB rfl|exact zDH rfl zCp rfl rfl rfl
 all_goals refine Rn.retO (s':=s.put (shw (W x))) (y:=bs) ⟨qAe,hbs⟩ rfl ?_ rfl
 all_goals simp[S.put,List.map_append]
theorem zUZ(R:Rn)(s:S)(bs:List Nat)(hbs:bs.length=s.cells.length)(x:List UInt8)(ho:s.out.length<=1000000): R.To 108 [.ptr 0 0,.d (.slice [encV bs (.text x)])] s bs (s.put (x)) (fun _=>encV [] (.num 0)):=by
 refine Rn.to_of hbs func108 rfl ntmps108 results108 rfl ?_
 intro wb St0 X fx
 repeat' first|(refine zUT (id:=4) ?_)|(refine zBj (zs:=[.string ByteArray.empty]) (hidL (zA2 bs s.cells)) 2 (zAh _) ?_ rfl rfl rfl rfl rfl rfl rfl ?_;with_reducible exact zCU)|apply en_n|apply zAE|apply zAA|apply zAD|apply w0|(apply zBv;exact rfl;exact rfl;(with_reducible exact zBK);exact(by decide);exact rfl;exact rfl;exact(by decide))|(apply zDh;exact rfl;with_reducible exact zCC)|apply ay (hd:=rfl)|exact zAC rfl|exact zAB rfl|exact zAR rfl zB0|exact zBX rfl|exact zAe rfl rfl|(refine w0' ?_)|(apply zAl;exact rfl;exact rfl;exact rfl;(with_reducible exact zDp);exact rfl;exact rfl;exact rfl;exact rfl)|refine zAQ rfl ?_|apply zAO
 refine Stop.go ?_
 refine zAE ?_
 refine zKr [.ptr 0 0,.ptr 0 0,.ptr 0 0,.ptr 0 (0+4),.buf 1 s.out.length,.ptr 2 (0+0),.d (str x),.d (.slice [str (x)]),.buf 1 (s.out.length+1),.ptr 0 0,.ptr 0 (0+4),.top] [8,11]
  [[.bx (fx 0) none [.d (zAm R.L),.d (dts R.T),.d (i64 (R.fuel:Int)),.d (i64 (s.steps:Int)),.buf 1 s.out.length,.d (i64 s.fin),.d (i64 s.raised)],.buf true 9 1 (s.out.map str),.box [.d (str x)]]++hidL (zA2 bs s.cells),[.bx (fx 0) none [.d (zAm R.L),.d (dts R.T),.d (i64 (R.fuel:Int)),.d (i64 (s.steps:Int)),.top,.d (i64 s.fin),.d (i64 s.raised)],.buf true 9 1 (s.out.map str++[str (x)]),.box [.d (str x)]]++hidL (zA2 bs s.cells),[.bx (fx 0) none [.d (zAm R.L),.d (dts R.T),.d (i64 (R.fuel:Int)),.d (i64 (s.steps:Int)),.buf 1 (s.out.length+1),.d (i64 s.fin),.d (i64 s.raised)],.buf true 9 1 (s.out.map str++[str (x)]),.box [.d (str x)]]++hidL (zA2 bs s.cells)] 8 [22] (nobB 1) rfl (by decide +kernel) (zOx rfl rfl) (by kernel_rfl) (by kernel_rfl) rfl (.inl rfl) rfl (by kernel_rfl) rfl rfl ?_ ?_
 ·refine zCL rfl rfl rfl (fun η=>zAG rfl) ?_
  refine zCL rfl rfl rfl (fun η=>zAG rfl) ?_
  refine zCL rfl rfl rfl (fun η=>zAS rfl) ?_
  refine zCL rfl rfl rfl (fun η=>zAH rfl zDd) ?_
  refine zMH rfl rfl rfl (by decide +kernel) (by decide +kernel) rfl (zAJ rfl zCH rfl rfl) ?_
  refine zCL rfl rfl rfl (fun η=>zAH rfl zEa) ?_
  refine zMH rfl rfl rfl (by decide +kernel) (by decide +kernel) rfl (zAJ rfl zAr rfl rfl) ?_
  refine zCL rfl rfl rfl (fun η=>zCi zBy zBZ zED rfl rfl (zAP rfl zAF) rfl) ?_
  refine zMG (ys:=[str (x)]) (m:=1) 0 rfl rfl rfl rfl rfl rfl (qAK _).symm rfl zBy zBZ zHJ zFl rfl rfl (zDK rfl) (by omega) ?_ ?_
  ·show _=(zD2 1 (_++hidL _)).set 1 _
   rw[zHi,zHh];rfl
  refine zCL rfl rfl rfl (fun η=>zAS rfl) ?_
  refine zCL rfl rfl rfl (fun η=>zAH rfl zDd) ?_
  refine zIO 1 rfl rfl rfl rfl rfl zCH rfl rfl rfl rfl rfl rfl ?_
  exact zMF
 skip
 repeat' first|(refine zBC 4 2 1 rfl rfl rfl rfl rfl rfl rfl ?_)|apply en_n|apply zAE|apply zAA|apply zAD|apply w0|exact zAf zCw zBR zA6 rfl|(apply zCY;exact rfl;with_reducible exact zBq)|apply ay (hd:=rfl)|exact zAB rfl
 all_goals refine Rn.retO (s':=s.put (x)) (y:=bs) ⟨qAe,hbs⟩ rfl ?_ rfl
 all_goals simp[S.put,List.map_append]
end Go.Proofs.YtjcgiiedaccjpaaGreatDoor
namespace Go.Proofs.YtjcgiiedaccjpaaGreatDoor
open _root_.Go.Proofs.Tryz
open Go.Sx Go.Ev
def payV(bs:List Nat): V->D
 | .num n=>.agg [i64 n]
 | .text t=>.agg [str t]
 | .con n need args=>.ref [str n,.slice (zCJ bs args),i64 need]
 | .prim p args=>.ref [str (zES p),i64 (pneed p),pdo p,.slice (zCJ bs args)]
 | .fn n k self env=>.ref [str n,i64 k,encE bs env,str self]
 | .cell i=>pv (bs.getD i 0)
theorem zFQ(bs:List Nat)(v:V): encV bs v=.ifc (tyV v) (payV bs v):=by cases v <;> rfl
theorem zGB(v:V): (fun y=>encV y v)=fun y=>.ifc (tyV v) (payV y v):=funext fun y=>zFQ y v
theorem zLB{R:Rn}{s:S}{bs:List Nat}(hbs:bs.length=s.cells.length){f:FuncId}(hbf:zAK prog f=true)(p:Nat)(hp:p<7)(a b:V)
  (hF:∀x y,R.To f [.ptr 0 0,.d (i64 x),.d (i64 y)] s bs (s.ints p x y).2 (fun _=>encV [] (s.ints p x y).1)) :
  R.To 147 ([.ptr 0 0,.d (.slice (zCJ bs [a,b]))]++[D.ref [.clo f []]].map SV.d) s bs (s.doP shwW p [a,b]).2 (fun y=>encV y (s.doP shwW p [a,b]).1):=by
 have no:((∀n,a≠.num n)\/∀n,b≠.num n)->s.doP shwW p [a,b]=s.stop 4:=fun h=>by
  unfold S.doP
  rw[if_pos hp]
  rcases h with h|h
  ·cases a <;> first|rfl|exact absurd rfl (h _)
  ·cases b <;> first|(cases a <;> rfl)|exact absurd rfl (h _)
 rcases zF1 a with⟨x,rfl⟩|ha
 ·rcases zF1 b with⟨y,rfl⟩|hb
  ·have e:s.doP shwW p [.num x,.num y]=s.ints p x y:=by unfold S.doP;rw[if_pos hp];rfl
   rw[e]
   have h:=hF x y
   obtain⟨⟨n,hn⟩,_⟩:=zMV s p x y
   generalize s.ints p x y=r at *
   obtain⟨r1,r2⟩:=r
   dsimp only at hn h ⊢;subst hn
   exact zPC R s r2 bs hbs f hbf x y n h
  ·rw[no (.inr hb)];exact zMW R s bs hbs f _ _ (.inr hb)
 ·rw[no (.inl ha)];exact zMW R s bs hbs f _ _ (.inl ha)
theorem zVy{R:Rn}{s:S}{bs:List Nat}(hbs:bs.length=s.cells.length)(hw:s.wf){N:Nat}(ho:s.out.length<=N)(hN:N<=100000)(p:Nat)(hp:p<14){l:List V}(hl:l.length=pneed p)(hv:VsOk R N l)(hwl:wfs s.cells.length l):
  ∃f cs,pdo p=.clo f cs/\zAK prog f=true/\R.To f ([.ptr 0 0,.d (.slice (zCJ bs l))]++cs.map SV.d) s bs (s.doP shwW p l).2 (fun y=>encV y (s.doP shwW p l).1):=by
 have ho':s.out.length<=1000000:=by omega
 have hdz:∀x y:Int,s.ints 3 x y=if Wn y=0 then s.raise (-2)else(.num (Wn ((Wn x).tdiv (Wn y))),s):=fun x y=>rfl
 have hmz:∀x y:Int,s.ints 4 x y=if Wn y=0 then s.raise (-2)else(.num ((Wn x).tmod (Wn y)),s):=fun x y=>rfl
 match p,hp,l,hl,hv,hwl with
 |0,_,[a,b],_,_,_=>exact⟨_,_,rfl,zEm,zLB hbs zVx 0 (by decide) a b fun x y=>b1_E R s bs hbs x y⟩
 |1,_,[a,b],_,_,_=>exact⟨_,_,rfl,zEm,zLB hbs zVw 1 (by decide) a b fun x y=>b2_E R s bs hbs x y⟩
 |2,_,[a,b],_,_,_=>exact⟨_,_,rfl,zEm,zLB hbs zVv 2 (by decide) a b fun x y=>b3_E R s bs hbs x y⟩
 |3,_,[a,b],_,_,_=>exact⟨_,_,rfl,zEm,zLB hbs zVu 3 (by decide) a b fun x y=>by
   rw[hdz]
   by_cases h:Wn y=0
   ·rw[if_pos h];exact zV2 R s bs hbs x y h
   ·rw[if_neg h];exact zV1 R s bs hbs x y h⟩
 |4,_,[a,b],_,_,_=>exact⟨_,_,rfl,zEm,zLB hbs zVt 4 (by decide) a b fun x y=>by
   rw[hmz]
   by_cases h:Wn y=0
   ·rw[if_pos h];exact zV0 R s bs hbs x y h
   ·rw[if_neg h];exact zVz R s bs hbs x y h⟩
 |5,_,[a,b],_,_,_=>exact⟨_,_,rfl,zEm,zLB hbs zVs 5 (by decide) a b fun x y=>b6_E R s bs hbs x y⟩
 |6,_,[a,b],_,_,_=>exact⟨_,_,rfl,zEm,zLB hbs zVr 6 (by decide) a b fun x y=>b7_E R s bs hbs x y⟩
 |7,_,[a,b],_,hv,_ =>
  refine⟨_,_,rfl,zU0,?_⟩
  rcases zGU a with⟨x,rfl⟩|ha
  ·rcases zGU b with⟨y,rfl⟩|hb
   ·have hx:x.length<=1000:=hv.1
    have hy:y.length<=1000:=hv.2.1
    have e:s.doP shwW 7 [.text x,.text y]=if x.length+y.length>200 then s.raise (-3)else(.text (x++y),s):=rfl
    rw[e]
    by_cases h:x.length+y.length>200
    ·rw[if_pos h];exact zT8 R s bs hbs x y h (by omega) (by omega)
    ·rw[if_neg h];exact zVC R s bs hbs x y h
   ·have e:s.doP shwW 7 [.text x,b]=s.stop 4:=by
     show (match (.text x:V),b with | .text x,.text y=>if x.length+y.length>200 then s.raise (-3)else(.text (x++y),s)|_,_=>s.stop 4)=_
     cases b <;> first|rfl|exact absurd rfl (hb _)
    rw[e];exact zSj R s bs hbs _ _ (.inr hb)
  ·have e:s.doP shwW 7 [a,b]=s.stop 4:=by
    show (match a,b with | .text x,.text y=>if x.length+y.length>200 then s.raise (-3)else(.text (x++y),s)|_,_=>s.stop 4)=_
    cases a <;> first|rfl|exact absurd rfl (ha _)
   rw[e];exact zSj R s bs hbs _ _ (.inl ha)
 |8,_,[a],_,_,_ =>
  refine⟨_,_,rfl,zVq,?_⟩
  rcases zGU a with⟨x,rfl⟩|ha
  ·exact zUm R s bs hbs x
  ·have e:s.doP shwW 8 [a]=s.stop 4:=by cases a <;> first|rfl|exact absurd rfl (ha _)
   rw[e];exact zUn R s bs hbs a [] ha
 |9,_,[a],_,_,hwl=>exact⟨_,_,rfl,zVp,zUb R s bs hbs hw a hwl.1⟩
 |10,_,[a],_,_,hwl =>
  refine⟨_,_,rfl,zU3,?_⟩
  rcases zQF a with⟨i,rfl⟩|ha
  ·exact zU4 R s bs hbs hw i hwl.1
  ·have e:s.doP shwW 10 [a]=s.stop 4:=by cases a <;> first|rfl|exact absurd rfl (ha _)
   rw[e];exact zU5 R s bs hbs a [] ha
 |11,_,[a,b],_,_,hwl =>
  refine⟨_,_,rfl,zUz,?_⟩
  rcases zQF a with⟨i,rfl⟩|ha
  ·exact zUX R s bs hbs i hwl.1 b
  ·have e:s.doP shwW 11 [a,b]=s.stop 4:=by cases a <;> first|rfl|exact absurd rfl (ha _)
   rw[e];exact zUY R s bs hbs a [encV bs b] ha
 |12,_,[a],_,_,_ =>
  refine⟨_,_,rfl,zU2,?_⟩
  rcases zF1 a with⟨x,rfl⟩|ha
  ·exact zUd R s bs hbs x ho'
  ·have e:s.doP shwW 12 [a]=s.stop 4:=by cases a <;> first|rfl|exact absurd rfl (ha _)
   rw[e];exact zUe R s bs hbs a [] ha
 |13,_,[a],_,_,_ =>
  refine⟨_,_,rfl,zU1,?_⟩
  rcases zGU a with⟨x,rfl⟩|ha
  ·exact zUZ R s bs hbs x ho'
  ·have e:s.doP shwW 13 [a]=s.stop 4:=by cases a <;> first|rfl|exact absurd rfl (ha _)
   rw[e];exact zUa R s bs hbs a [] ha
 |p+14,hp,_,_,_,_=>omega
theorem zUB{R:Rn}{s:S}{bs:List Nat}(hbs:bs.length=s.cells.length)(hw:s.wf){N:Nat}(ho:s.out.length<=N)(hN:N<=100000){ex:S->Nat->Env->V×S}{f a:V}(hf:VOk R N f)(ha:VOk R N a)(hfw:f.wf s.cells.length)(haw:a.wf s.cells.length)
  (hx:s.fin=0->∀k e,ExAt R k->EOk R N e->e.wf s.cells.length->R.To 23 [.ptr 0 0,.d (i64 (k:Int)),.d (encE bs e)] s bs (ex s k e).2 (fun y=>encV y (ex s k e).1)) :
  R.To 49 [.ptr 0 0,.d (encV bs f),.d (encV bs a)] s bs (s.apply shwW ex f a).2 (fun y=>encV y (s.apply shwW ex f a).1):=by
 unfold S.apply
 by_cases h0:s.fin=0
 ·rw[if_neg (by omega:¬s.fin≠0)]
  match f,hf,hfw with
  | .fn n k self env,hf,hfw =>
   dsimp only
   by_cases hs:self=[]
   ·rw[if_pos hs]
    have:=hx h0 k (.cons n a env) hf.1 ⟨ha,hf.2⟩ ⟨haw,hfw⟩
    subst hs
    exact zSA R s bs hbs h0 n k env a this
   ·rw[if_neg hs]
    exact zQN R s bs hbs h0 n k self hs env a (hx h0 k (.cons n a (.cons self (.fn n k self env) env)) hf.1 ⟨ha,hf,hf.2⟩ ⟨haw,hfw,hfw⟩)
  | .prim p args,hf,hfw =>
   dsimp only
   have hb:args.length<=1000000:=by have:=hf.2.1;omega
   by_cases hl:args.length+1=pneed p
   ·rw[if_pos hl]
    have hp:p<14:=by
     rcases qAI p 14 with h|h
     ·exact h
     ·have:p=14:=by have:=hf.1;omega
      subst this;exact absurd hl (by show ¬_=0;omega)
    obtain⟨g,cs,hd,hbf,hE⟩:=zVy (l:=args++[a]) hbs hw ho hN p hp (by rw[qAO];exact hl) (VsOk.app hf.2.2 ⟨ha,trivial⟩) (zGQ hfw ⟨haw,trivial⟩)
    exact zSB R s bs hbs h0 p args a hl hb hd hbf hE
   ·rw[if_neg hl];exact zNx R s bs hbs h0 p args a hl hb
  | .con m need args,hf,hfw =>
   dsimp only
   have hb:args.length<=1000000:=by have:=hf.1;omega
   by_cases hl:args.length<need
   ·rw[if_pos hl];exact zQQ R s bs hbs h0 m need args a hl hb
   ·rw[if_neg hl];exact zNy R s bs hbs h0 m need args a hl
  | .num n,_,_=>exact zH6 R s bs hbs h0 _ rfl rfl rfl a
  | .text t,_,_=>exact zH6 R s bs hbs h0 _ rfl rfl rfl a
  | .cell i,_,_=>exact zH6 R s bs hbs h0 _ rfl rfl rfl a
 ·rw[if_pos h0];exact zQP R s bs hbs h0 _ a
