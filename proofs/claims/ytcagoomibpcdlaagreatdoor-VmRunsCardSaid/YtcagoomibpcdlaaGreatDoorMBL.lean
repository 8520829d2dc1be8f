import Derived.Test.YtcagoomibpcdlaaGreatDoorMBK
set_option maxHeartbeats 16000000
namespace Go.Proofs.YtcagoomibpcdlaaGreatDoor
open Go.Sx Go.Vm
open _root_.Go.Proofs.Tryz
section
abbrev apP(m:Img)(s:St): Exit->Sl->List Ob->Prop:=zA8 prog #[.cell 4 84] (smD m s)
attribute [local irreducible] zAL Program.underlying Ylds zA2 alex zBZ zBP awp zAb zBh zBg zAW zBF zAp zCO zBG zBR zAr zBV zBY zBe zCQ zBM zA8 zBE JFit
theorem zVj(m:Img)(s:St)(i:Nat)(o:Thing)(ho:s.all[i]?=some o)(wb:World)(St0:Stab):
  awp ⟨prog,68,wb,St0,fun _=>False,0⟩ (zEX 4 (zCw Tryz.f63)) (apP m { s with c:=⟨o.tag,s.c.base,.b i⟩ }) [(2,.ptr 0 0),(4,.ptr 1 0),(5,.ptr 2 0)] [.box (smC m s),.box smZ,.box [.d (bl false),.d (i64 (i:Int))]]:=by
 have hoo:s.all[((i:Nat):Int).toNat]?=some o:=ho
 unfold apP
 conv=>arg 2;whnf
 skip
 exact yA
theorem zYR(m:Img)(s:St)(tl:Bool)(f a:Rf)(hr:∀i,f=.b i->i<s.all.length)(hS:Sml s)(hf:s.of f 2=false)(wb:World)(St0:Stab):
  awp ⟨prog,68,wb,St0,fun _=>False,0⟩ (zEX 2 (zCw Tryz.f63)) (apP m (s.stop 4)) (apS tl) (apB m s f a):=by
 have hO:=zGR m s f 2 hr hS
 have hT:=zDX m s 4
 rw[hf]at hO
 unfold apP
 generalize s.stop 4=s' at *
 unfold smD rfD at *
 conv=>arg 2;whnf
 skip
 exact yK
theorem zbl(m:Img)(s:St)(tl:Bool)(f a:Rf)(hr:∀i,f=.b i->i<s.all.length)(hS:Sml s)(hf:s.of f 2=true)(wb:World)(St0:Stab)(Q:Exit->Sl->List Ob->Prop)
  (h:awp ⟨prog,68,wb,St0,fun _=>False,0⟩ (zEX 3 (zCw Tryz.f63)) Q (apS tl) (apB m s f a)) :
  awp ⟨prog,68,wb,St0,fun _=>False,0⟩ (zEX 2 (zCw Tryz.f63)) Q (apS tl) (apB m s f a):=by
 have hO:=zGR m s f 2 hr hS
 rw[hf]at hO
 unfold smD rfD at *
 conv at h=>arg 2;whnf
 conv=>arg 2;whnf
 skip
 repeat' first|(refine zHu (id:=4) ?_)|apply en_n|apply zAE|apply zAA|apply zAB|apply w0|exact ycA zCD hO|refine ayA rfl ?_|apply ay (hd:=rfl)|refine zAI rfl ?_|apply zAP
 all_goals first|omega|skip
 refine Stop.go ?_
 refine zBW ?_ h
 exact zAU (Le_all rfl) (zA4 _) rfl rfl
end
section
theorem zTd{C:Ctx}{Q:Exit->Sl->List Ob->Prop}{σ:Sl}{η:List Ob}{id:Nat}{o:Array Oper}{dr:Bool}(h:Stop (awp C (.region id o dr) Q σ η)): awp C (.region id o dr) Q σ η:=by
 unfold Stop at h;exact h
attribute [local irreducible] zAL Program.underlying Ylds zA2 alex zBZ zBP awp zAb zBh zBg zAW zBF zAp zCO zBG zBR zAr zBV zBY zBe zCQ zBM zA8 zBE JFit
theorem zYQ(m:Img)(s:St)(i:Nat)(a:Rf)(o:Thing)(ho:s.all[i]?=some o)(hb:0<=s.c.base/\s.c.base<=s.stack.length)(hS:Sml s)(wb:World)(St0:Stab):
  awp ⟨prog,68,wb,St0,fun _=>False,0⟩ (zEX 3 (zCw Tryz.f63)) (apP m { s with stack:=s.stack.take s.c.base.toNat++[a],c:=⟨o.tag,s.c.base,.b i⟩ }) (apS true) (apB m s (.b i) a):=by
 have h1:=hS.stack
 have hE:=zVj m { s with stack:=s.stack.take s.c.base.toNat++[a] } i o ho wb St0
 have hle:(s.stack.take s.c.base.toNat).length<=s.stack.length:=by rw[qAG];omega
 have ha:(s.stack.take s.c.base.toNat++[a]).map rfD=(s.stack.take s.c.base.toNat).map rfD++[.agg [bl (rN a),i64 (rV a)]]:=qAU
 generalize apP m { s with stack:=s.stack.take s.c.base.toNat++[a],c:=⟨o.tag,s.c.base,.b i⟩ }=Q at *
 dsimp only[smC]at hE
 rw[ha]at hE
 conv at hE=>arg 2;whnf
 conv=>arg 2;whnf
 by_cases hT:s.stack.take s.c.base.toNat=[]
 ·have he:(s.stack.take s.c.base.toNat).map rfD=[]:=by rw[hT];rfl
  have hco:∀η:List Ob,Co η (SV.d (.slice ((s.stack.take s.c.base.toNat).map rfD))) (.slice []):=fun η=>by rw[he];exact zA0 rfl
  rw[he]at hE
  skip
  exact yL
 ·have hpos:0<(s.stack.take s.c.base.toNat).length:=qA3.2 hT
  have hln:((s.stack.take s.c.base.toNat).map rfD).length=(s.stack.take s.c.base.toNat).length:=qAC _
  have h0:Nat.blt 0 ((s.stack.take s.c.base.toNat).map rfD).length=true:=by rw[hln];simpa using hpos
  have hcp:((s.stack.take s.c.base.toNat).map rfD).length*16<=140737488355328/\((s.stack.take s.c.base.toNat).map rfD).length<=140737488355328:=by rw[hln];omega
  have hc1:((s.stack.take s.c.base.toNat).length+1)*16<=140737488355328/\(s.stack.take s.c.base.toNat).length+1<=140737488355328:=by omega
  skip
  repeat' first|(refine zTd (id:=5) ?_)|apply en_n|apply zAE|apply zAA|apply zAB|apply w0|refine ayA rfl ?_|refine zAJ rfl ?_
  all_goals first|omega|skip
  refine Stop.go ?_
  refine zEd [.d (.tsl []),.ptr 0 (0+5),.d (.slice (s.stack.map rfD)),.ptr 0 (0+6),.ptr 0 (0+6+1),.d (i64 s.c.base),.d (.slice ((s.stack.take s.c.base.toNat).map rfD)),.buf 4 (s.stack.take s.c.base.toNat).length,.d (.agg [bl (rN a),i64 (rV a)]),.d (.slice [.agg [bl (rN a),i64 (rV a)]])] [7]
   [apB m s (.b i) a,apB m s (.b i) a++[.buf false 78 2 ((s.stack.take s.c.base.toNat).map rfD)]] (by kernel_rfl) (by kernel_rfl) rfl (.inr (by kernel_rfl)) rfl (by kernel_rfl) rfl rfl ?_ ?_
  ·refine zBN rfl rfl rfl (fun η=>zC9 zBa zBC zDD rfl) ?_
   refine zBN rfl rfl rfl (fun η=>zAF rfl zCV) ?_
   refine zDG 0 0 rfl rfl rfl (by decide +kernel) (by decide +kernel) (zBc (zAG rfl zCB rfl rfl) zCl) ?_
   refine zBN rfl rfl rfl (fun η=>zAF rfl zCZ) ?_
   refine zBN rfl rfl rfl (fun η=>zAF rfl zG0) ?_
   refine zDG 0 0 rfl rfl rfl (by decide +kernel) (by decide +kernel) (zBc (zAG rfl zAY rfl rfl) zCl) ?_
   refine zBN rfl rfl rfl (fun η=>zGm (L:=s.stack) (enc:=rfD) (zA0 rfl) zBC rfl (fun _=>rfl) hb) ?_
   refine zGH 0 rfl rfl rfl rfl h0 zBa zBC zDw zDx (zJs _) hcp rfl rfl hln rfl rfl ?_
   refine zDG 0 1 rfl rfl rfl (by decide +kernel) (by decide +kernel) (zBc (zAT rfl zA7 rfl rfl rfl) (zBc (zAT rfl zA7 rfl rfl rfl) zCl)) ?_
   refine zBN rfl rfl rfl (fun η=>zCA zBa zBC zDD rfl rfl (zAN rfl zAH) rfl) ?_
   exact zFQ
  skip
  repeat' first|(refine zCi (id:=11) ?_)|apply en_n|apply zAB|apply w0|(refine zCJ (by kernel_rfl) ?_;refine aStA ?_)|(refine zCJ (by kernel_rfl) ?_;apply aApp (id:=4) (ys:=[.agg [bl (rN a),i64 (rV a)]]) (hd:=rfl) (hro:=rfl);exact rfl;exact rfl;exact zA0 rfl;exact hln.symm;exact rfl;(with_reducible exact zBa);(with_reducible exact zBC);(with_reducible exact zDw);(with_reducible exact zDx);exact(fun d hd=>by rw[qAM.1 hd];rfl);exact hc1)|refine ayA rfl ?_|(refine w0' ?_)
  all_goals first|omega|skip
  refine Stop.go ?_
  refine zBW (s:=[(2,.ptr 0 0),(4,.ptr 1 0),(5,.ptr 2 0)]) (h:=[.box ((smC m s).set 5 (.buf 4 ((s.stack.take s.c.base.toNat).length+1))),.box smZ,.box [.d (bl false),.d (i64 (i:Int))],.gone,.buf false 78 2 ((s.stack.take s.c.base.toNat).map rfD++[.agg [bl (rN a),i64 (rV a)]])]) ?_ ?_
  ·exact zAU (Le_all rfl) (zAK rfl rfl (zAK rfl rfl (zAK rfl rfl (zDV rfl (zAK rfl rfl zAe))))) rfl rfl
  refine zCb 0 5 rfl rfl (zDr rfl (by rw[qAE,hln];rfl)) ?_
  refine zBW ?_ hE
  exact zAU (Le_all rfl) (zAK rfl rfl (zAK rfl rfl (zAK rfl rfl zAe))) rfl rfl
end
section
theorem zVR: ∀(L:List Cl),∀d∈L.map clD,d.flat.length=4:=fun L d hd=>by obtain⟨c,_,rfl⟩:=qA5.1 hd;rfl
attribute [local irreducible] zAL Program.underlying Ylds zA2 alex zBZ zBP awp zAb zBh zBg zAW zBF zAp zCO zBG zBR zAr zBV zBY zBe zCQ zBM zA8 zBE JFit
theorem zYT(m:Img)(s:St)(f a:Rf)(hc:s.calls.length>=1000)(wb:World)(St0:Stab):
  awp ⟨prog,68,wb,St0,fun _=>False,0⟩ (zEX 3 (zCw Tryz.f63)) (apP m (s.stop 6)) (apS false) (apB m s f a):=by
 have hT:=zDX m s 6
 unfold apP
 generalize s.stop 6=s' at *
 unfold smD at *
 conv=>arg 2;whnf
 skip
 exact yB
theorem zYU(m:Img)(s:St)(i:Nat)(a:Rf)(o:Thing)(ho:s.all[i]?=some o)(h2:2<=s.stack.length)(hc:¬s.calls.length>=1000)(hS:Sml s)(wb:World)(St0:Stab):
  awp ⟨prog,68,wb,St0,fun _=>False,0⟩ (zEX 3 (zCw Tryz.f63)) (apP m { s with calls:=s.calls++[s.c],stack:=s.stack.take (s.stack.length-2)++[a],c:=⟨o.tag,(s.stack.length:Int)-2,.b i⟩ }) (apS false) (apB m s (.b i) a):=by
 have h1:=hS.stack
 have hE:=zVj m { s with calls:=s.calls++[s.c],stack:=s.stack.take (s.stack.length-2)++[a],c:={ s.c with base:=(s.stack.length:Int)-2 } } i o ho wb St0
 have hI:=zEF m { s with calls:=s.calls++[s.c],c:={ s.c with base:=(s.stack.length:Int)-2 } } 2 a h2 ⟨hS.stack,by rw[qAE];show s.calls.length+1<=_;omega,hS.tries,hS.all_,hS.out⟩
 replace hI:zAb prog 62 [smD m { s with calls:=s.calls++[s.c],c:={ s.c with base:=(s.stack.length:Int)-2 } },i64 2,rfD a] (smD m { s with calls:=s.calls++[s.c],stack:=s.stack.take (s.stack.length-2)++[a],c:={ s.c with base:=(s.stack.length:Int)-2 } }):=hI
 have ha:(s.calls++[s.c]).map clD=s.calls.map clD++[.agg [i64 s.c.at_,i64 s.c.base,bl (rN s.c.fun_),i64 (rV s.c.fun_)]]:=qAU
 generalize apP m { s with calls:=s.calls++[s.c],stack:=s.stack.take (s.stack.length-2)++[a],c:=⟨o.tag,(s.stack.length:Int)-2,.b i⟩ }=Q at *
 unfold smD rfD at hI
 dsimp only at hI
 rw[show (fun r=>D.agg [bl (rN r),i64 (rV r)])=rfD from rfl]at hI
 dsimp only[smC]at hE
 rw[ha]at hE hI
 generalize s.stack.take (s.stack.length-2)++[a]=T at *
 conv at hE=>arg 2;whnf
 conv=>arg 2;whnf
 by_cases hT:s.calls=[]
 ·have he:s.calls.map clD=[]:=by rw[hT];rfl
  have hz:s.calls.length=0:=by rw[hT];rfl
  have hco:∀η:List Ob,Co η (SV.d (.slice (s.calls.map clD))) (.slice []):=fun η=>by rw[he];exact zA0 rfl
  rw[he]at hE hI
  skip
  exact yL
 ·have hpos:0<s.calls.length:=qA3.2 hT
  have hln:(s.calls.map clD).length=s.calls.length:=qAC _
  have h0:Nat.blt 0 (s.calls.map clD).length=true:=by rw[hln];simpa using hpos
  have hcp:(s.calls.map clD).length*32<=140737488355328/\(s.calls.map clD).length<=140737488355328:=by rw[hln];omega
  have hc1:(s.calls.length+1)*32<=140737488355328/\s.calls.length+1<=140737488355328:=by omega
  skip
  repeat' first|(refine zCi (id:=8) ?_)|apply en_n|apply zAE|apply zAA|apply zAB|apply w0|refine ayA rfl ?_|refine ayQ rfl ?_|refine zAI rfl ?_|apply zAP
  all_goals first|omega|skip
  refine Stop.go ?_
  refine zAE ?_
  refine zEd [.d (.tsl []),.ptr 0 (0+10),.d (.slice (s.calls.map clD)),.buf 4 s.calls.length,.ptr 0 (0+6),.d (.agg [i64 s.c.at_,i64 s.c.base,bl (rN s.c.fun_),i64 (rV s.c.fun_)]),.d (.slice [.agg [i64 s.c.at_,i64 s.c.base,bl (rN s.c.fun_),i64 (rV s.c.fun_)]])] [3]
   [apB m s (.b i) a,apB m s (.b i) a++[.buf false 80 4 (s.calls.map clD)]] (by kernel_rfl) (by kernel_rfl) rfl (.inr (by kernel_rfl)) rfl (by kernel_rfl) rfl rfl ?_ ?_
  ·refine zBN rfl rfl rfl (fun η=>zC9 zEv zEP zJl rfl) ?_
   refine zBN rfl rfl rfl (fun η=>zAF rfl zEW) ?_
   refine zDG 0 0 rfl rfl rfl (by decide +kernel) (by decide +kernel) (zBc (zAG rfl zFD rfl rfl) zCl) ?_
   refine zGH 0 rfl rfl rfl rfl h0 zEv zEP zKq zKv (zVR _) hcp rfl rfl hln rfl rfl ?_
   refine zBN rfl rfl rfl (fun η=>zAF rfl zCZ) ?_
   refine zDG 0 1 rfl rfl rfl (by decide +kernel) (by decide +kernel) (zBc (zAT rfl zHn rfl rfl rfl) (zBc (zAT rfl zHn rfl rfl rfl) zCl)) ?_
   refine zBN rfl rfl rfl (fun η=>zCA zEv zEP zJl rfl rfl (zAN rfl zAH) rfl) ?_
   exact zFQ
  skip
  repeat' first|(refine zCi (id:=9) ?_)|apply en_n|apply zAB|apply w0|(refine zCJ (by kernel_rfl) ?_;refine aStA ?_)|(refine zCJ (by kernel_rfl) ?_;apply aApp (id:=4) (ys:=[.agg [i64 s.c.at_,i64 s.c.base,bl (rN s.c.fun_),i64 (rV s.c.fun_)]]) (hd:=rfl) (hro:=rfl);exact rfl;exact rfl;exact zA0 rfl;exact hln.symm;exact rfl;(with_reducible exact zEv);(with_reducible exact zEP);(with_reducible exact zKq);(with_reducible exact zKv);exact(fun d hd=>by rw[qAM.1 hd];rfl);exact hc1)|refine ayA rfl ?_|(refine w0' ?_)
  all_goals first|omega|skip
  refine Stop.go ?_
  refine zBW (s:=[(2,.ptr 0 0),(4,.ptr 1 0),(5,.ptr 2 0),(6,.ptr 3 0)]) (h:=[.box ((smC m s).set 10 (.buf 4 (s.calls.length+1))),.box smZ,.box [.d (bl false),.d (i64 (i:Int))],.box [.d (bl (rN a)),.d (i64 (rV a))],.buf false 80 4 (s.calls.map clD++[.agg [i64 s.c.at_,i64 s.c.base,bl (rN s.c.fun_),i64 (rV s.c.fun_)]])]) ?_ ?_
  ·exact zAU (Le_all rfl) (zAK rfl rfl (zAK rfl rfl (zAK rfl rfl (zAK rfl rfl (zAK rfl rfl zAe))))) rfl rfl
  refine zCb 0 10 rfl rfl (zDr rfl (by rw[qAE,hln];rfl)) ?_
  exact yL
theorem zbX(m:Img)(s:St)(tl:Bool)(h2:2<=s.stack.length)(hr:RfIn s.all.length (s.top 1))(hb:0<=s.c.base/\s.c.base<=s.stack.length)(hS:Sml s): zAb prog 63 [smD m s,bl tl] (smD m (s.app tl)):=by
 refine zB0 func63 rfl ntmps63 results63 rfl ?_
 intro wb St0
 refine zYS m s tl h2 hS wb St0 _ ?_
 unfold St.app
 dsimp only
 generalize s.top 0=a
 generalize s.top 1=f at *
 cases hf:s.of f 2 with
 |false =>
  exact zYR m s tl f a hr hS hf wb St0
 |true =>
  cases f with
  |n v=>cases hf
  |b i =>
   have hi:=hr i rfl
   obtain⟨o,ho⟩:∃o,s.all[i]?=some o:=⟨_,qAB hi⟩
   have hg:s.obj (.b i)=o:=by show s.all.getD i default=o;rw[qAD,ho];rfl
   rw[hg]
   refine zbl m s tl (.b i) a hr hS hf wb St0 _ ?_
   cases tl with
   |true=>exact zYQ m s i a o ho hb hS wb St0
   |false =>
    by_cases hc:s.calls.length>=1000
    ·have:=zYT m s (.b i) a hc wb St0
     simp only[Bool.not_true,qBK,if_false,if_pos hc]
     exact this
    ·have:=zYU m s i a o ho h2 hc hS wb St0
     simp only[Bool.not_true,qBK,if_false,if_neg hc]
     exact this
end
section
theorem zQ0(s:St)(n:Nat)(x:Int): s.numI n (W x)=s.numI n x:=by
 unfold St.numI numR
 rw[show Wn (W x)=Wn x by unfold Wn W;omega]
attribute [local irreducible] zAL Program.underlying Ylds zA2 alex zBZ zBP awp zAb zBh zBg zAW zBF zAp zCO zBG zBR zAr zBV zBY zBe zCQ zBM zA8 zBE
theorem zX7(m:Img)(s:St)(p a b:Int)(hp:0<=p/\p<=6)(h2:2<=s.stack.length)(hL:zL5 s)(hS:Sml s)(ha:W a=a)(hb:W b=b): zAb prog 108 [smD m s,i64 p,i64 a,i64 b] (smD m (s.ints p a b)):=by
 have hN:∀x,zAb prog 109 [smD m s,i64 2,i64 x] (smD m (s.numI 2 x)):=fun x=>zNT m s 2 x h2 hS
 have hR:=zLj m s (-2) hL hS
 have hA:=zaZ a b
 have hB:=zaT a b
 have hC:=zaU a b
 have hD:=zaX a b
 have hE:=zaV a b
 refine zB0 func108 rfl ntmps108 results108 rfl ?_
 intro wb St0
 have hc:((p=3\/p=4)/\b=0)\/∃x,s.ints p a b=s.numI 2 x/\(p=0/\x=W (a+b)\/p=1/\x=W (a-b)\/p=2/\x=W (a*b)\/(p=3/\b≠0/\x=divV a b)\/(p=4/\b≠0/\x=modV a b)\/(p=5/\a=b/\x=1)\/(p=5/\a≠b/\x=0)\/(p=6/\a<b/\x=1)\/(p=6/\¬a<b/\x=0)):=by
  have h7:p=0\/p=1\/p=2\/p=3\/p=4\/p=5\/p=6:=by omega
  rcases h7 with h|h|h|h|h|h|h <;> subst h
  ·exact .inr ⟨_,by rw[zQ0];rfl,.inl ⟨rfl,rfl⟩⟩
  ·exact .inr ⟨_,by rw[zQ0];rfl,.inr (.inl ⟨rfl,rfl⟩)⟩
  ·exact .inr ⟨_,by rw[zQ0];rfl,.inr (.inr (.inl ⟨rfl,rfl⟩))⟩
  ·by_cases h:b=0
   ·exact .inl ⟨.inl rfl,h⟩
   ·refine .inr ⟨divV a b,?_,.inr (.inr (.inr (.inl ⟨rfl,h,rfl⟩)))⟩
    unfold divV;rw[if_neg (by rw[hb];exact h),zQ0,ha,hb]
    show (if b=0 then s.raise (-2)else s.numI 2 (a.tdiv b))=_
    rw[if_neg h]
  ·by_cases h:b=0
   ·exact .inl ⟨.inr rfl,h⟩
   ·refine .inr ⟨modV a b,?_,.inr (.inr (.inr (.inr (.inl ⟨rfl,h,rfl⟩))))⟩
    unfold modV;rw[if_neg (by rw[hb];exact h),ha,hb]
    show (if b=0 then s.raise (-2)else s.numI 2 (a.tmod b))=_
    rw[if_neg h]
  ·by_cases h:a=b
   ·exact .inr ⟨1,by show s.numI 2 (if a=b then 1 else 0)=_;rw[if_pos h],.inr (.inr (.inr (.inr (.inr (.inl ⟨rfl,h,rfl⟩)))))⟩
   ·exact .inr ⟨0,by show s.numI 2 (if a=b then 1 else 0)=_;rw[if_neg h],.inr (.inr (.inr (.inr (.inr (.inr (.inl ⟨rfl,h,rfl⟩))))))⟩
  ·by_cases h:a<b
   ·exact .inr ⟨1,by show s.numI 2 (if a<b then 1 else 0)=_;rw[if_pos h],.inr (.inr (.inr (.inr (.inr (.inr (.inr (.inl ⟨rfl,h,rfl⟩)))))))⟩
   ·exact .inr ⟨0,by show s.numI 2 (if a<b then 1 else 0)=_;rw[if_neg h],.inr (.inr (.inr (.inr (.inr (.inr (.inr (.inr ⟨rfl,h,rfl⟩)))))))⟩
 rcases hc with⟨h34,h0⟩|⟨x,hx,hcs⟩
 ·subst h0
  have hi:s.ints p a 0=s.raise (-2):=by rcases h34 with h|h <;> subst h <;> rfl
  rw[hi]
  have hok:okZ 0=false:=by rfl
  rw[hok]at hD hE
  generalize s.raise (-2)=s' at *
  clear hN hA hB hC ha hb hi hL
  unfold smD at *
  rcases h34 with h|h <;> subst h
  all_goals
   exact yB
 ·rw[hx]
  have hN:=hN x
  have hok:b≠0->okZ b=true:=fun h=>by unfold okZ;rw[hb,decide_eq_false h];rfl
  generalize s.numI 2 x=s' at *
  clear hR hx ha hb hL
  unfold smD at *
  rcases hcs with⟨h,e⟩|⟨h,e⟩|⟨h,e⟩|⟨h,hq,e⟩|⟨h,hq,e⟩|⟨h,hq,e⟩|⟨h,hq,e⟩|⟨h,hq,e⟩|⟨h,hq,e⟩ <;> subst h <;> subst e
  all_goals try rw[hok hq]at hD hE
  all_goals
   exact yA
end
section
abbrev prS(p:Int): Sl:=[(1,.d (i64 p)),(2,.ptr 0 0),(4,.ptr 1 0),(5,.ptr 2 0),(6,.ptr 3 0)]
attribute [local irreducible] zAL Program.underlying Ylds zA2 alex zBZ zBP awp zAb zBh zBg zAW zBF zAp zCO zBG zBR zAr zBV zBY zBe zCQ zBM zA8 zBE JFit
theorem zaj(m:Img)(s:St)(p:Int)(hp:0<=p/\p<=13)(h2:(takes p).toNat<=s.stack.length)(hS:Sml s)(wb:World)(St0:Stab)(Q:Exit->Sl->List Ob->Prop)
  (h:awp ⟨prog,152,wb,St0,fun _=>False,0⟩ (zEX 3 (zCw Tryz.f65)) Q (prS p) (apB m s (s.top ((takes p).toNat-1)) (s.top 0))) :
  awp ⟨prog,152,wb,St0,fun _=>False,0⟩ (zCw Tryz.f65) Q (zPC [smD m s,i64 p] 0) []:=by
 have ht:takes p=1\/takes p=2:=by unfold takes;repeat' split <;> omega
 have hT1:=zFB m s ((takes p).toNat-1) (by omega) hS
 have hT0:=zFB m s 0 (by omega) hS
 have hK:=zOF p
 replace hT0:zAb prog 31 [smD m s,i64 0] (rfD (s.top 0)):=hT0
 rw[show (((takes p).toNat-1:Nat):Int)=takes p-1 by omega]at hT1
 generalize s.top ((takes p).toNat-1)=f at *
 generalize s.top 0=a at *
 generalize takes p=tk at *
 unfold smD rfD at *
 conv at h=>arg 2;whnf
 conv=>arg 2;whnf
 skip
 repeat' first|(refine zCi (id:=1) ?_)|apply en_n|apply zAE|apply zAA|apply zAB|apply w0|refine aBoA ?_|refine aAlA ?_
 refine Stop.go ?_
 refine zAE ?_
 refine zHF (id:=1) [.y (.d (smD m s)),.y (.d (i64 p)),.y (.d (i64 tk)),.y (.d (i64 (tk-1))),.y (.d (.agg [bl (rN f),i64 (rV f)])),.mk ⟨5,[.bool false,.int .i64 0],78,[.d (bl (rN f)),.d (i64 (rV f))]⟩ (some 6),.st 5 ⟨5,[.bool false,.int .i64 0],78,[.d (bl (rN f)),.d (i64 (rV f))]⟩] (by kernel_rfl) (by kernel_rfl) (.inl (by kernel_rfl)) ⟨⟨rfl,zAT rfl zAV rfl rfl rfl⟩,rfl,⟨rfl,zAD rfl⟩,rfl,⟨rfl,zAR zIj hK (zAN rfl zAH)⟩,rfl,⟨rfl,zCe rfl rfl (by omega)⟩,rfl,⟨rfl,zAR zBw hT1 (zAN rfl (zAN rfl zAH))⟩,rfl,⟨rfl,rfl,rfl,zCt,by kernel_rfl,rfl⟩,rfl,⟨⟨_,_,_,_,_,rfl,rfl,rfl,zA7,rfl⟩,rfl,rfl,rfl,rfl,rfl⟩,trivial⟩ ?_
 refine zAB ?_
 refine en_n ?_
 refine zBW (s:=[(1,.d (i64 p)),(2,.ptr 0 0),(4,.ptr 1 0),(5,.ptr 2 0)]) (h:=[.box (smC m s),.box smZ,.box [.d (bl (rN f)),.d (i64 (rV f))]]) ?_ ?_
 ·exact zAU (Le_all rfl) (zAK rfl rfl (zD5 rfl zDA (zD5 rfl zDA zAe))) rfl rfl
 repeat' first|(refine zHu (id:=3) ?_)|apply en_n|apply zAE|apply zAA|apply zAB|apply w0|exact ycA zBw hT0|refine aAlA ?_|refine ayA rfl ?_|apply ay (hd:=rfl)|(refine w0' ?_)|refine aStA ?_
 refine Stop.go ?_
 refine zBW ?_ h
 exact zAU (Le_all rfl) (zAK rfl rfl (zAK rfl rfl (zAK rfl rfl (zD5 rfl zDA zAe)))) rfl rfl
