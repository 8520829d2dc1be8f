import Derived.Test.YtcagoomibpcdlaaGreatDoorMBM
set_option maxHeartbeats 16000000
namespace Go.Proofs.YtcagoomibpcdlaaGreatDoor
open Go.Sx Go.Vm
section
open _root_.Go.Proofs.Tryz
attribute [local irreducible] zAL Program.underlying Ylds zA2 alex zBZ zBP awp zAb zBh zBg zAW zBF zAp zCO zBG zBR zAr zBV zBY zBe zCQ zBM zA8 zBE JFit
theorem sp_1(m:Img)(s:St)(a b:Int)(c:Cn)(ha:0<=a)(hc:m.pool[a.toNat]?=some c)(ht:c.isText=true->c.text.length<=200)(hM:MSml s): SpTo m s 1 a b (if c.isText then s.block (zB6 c.text) 0 else s.push (numR c.num)):=by
 intro wb St0
 have hS:=hM.toSml
 have hX:=fun h=>zRP c.text (by have:=ht h;omega)
 have hB:=fun h=>zJb m s (zB6 c.text) 0 hM (qAQ _) (by show c.text.length<=_;have:=ht h;omega) (by show (0:Nat)<=_;omega)
 have hN:=zLl c.num
 have hP:=zKb m s (numR c.num) hS
 replace hB:c.isText=true->zAb prog 59 [smD m s,thD (zB6 c.text),i64 0] (smD m (s.block (zB6 c.text) 0)):=hB
 obtain⟨it,nu,tx⟩:=c
 dsimp only at *
 generalize s.block (zB6 tx) 0=s1 at *
 generalize s.push (numR nu)=s2 at *
 generalize zB6 tx=th at *
 generalize numR nu=r at *
 rw[show thD th=.agg [i64 th.kind,i64 th.tag,str th.text,.slice (th.parts.map rfD)]from rfl]at hX hB
 rw[show rfD r=.agg [bl (rN r),i64 (rV r)]from rfl]at hN hP
 unfold smD at *
 conv=>arg 2;whnf
 cases it
 ·clear hX hB
  simp only[if_false,qBK]
  exact yA
 ·replace hX:=hX rfl
  replace hB:=hB rfl
  simp only[if_true]
  exact yA
end
section
attribute [local irreducible] zAL Program.underlying Ylds zA2 alex zBZ zBP awp zAb zBh zBg zAW zBF zAp zCO zBG zBR zAr zBV zBY zBe zCQ zBM zA8 zBE JFit
theorem sp_3(m:Img)(s:St)(a b:Int)(i:Nat)(o:Thing)(q:Rf)(ha:0<=a)(hf:s.c.fun_=.b i)(ho:s.all[i]?=some o)(hq:o.parts[a.toNat]?=some q)(hS:Sml s): SpTo m s 3 a b (s.push q):=by
 intro wb St0
 have hP:=zKb m s q hS
 have hoo:(s.all.map thD)[((i:Nat):Int).toNat]?=some (.agg [i64 o.kind,i64 o.tag,str o.text,.slice (o.parts.map rfD)]):=by
  show (s.all.map thD)[i]?=_
  rw[qAH,ho];rfl
 have hqq:(o.parts.map rfD)[a.toNat]?=some (.agg [bl (rN q),i64 (rV q)]):=by
  rw[qAH,hq];rfl
 generalize s.push q=s' at *
 rw[show rfD q=.agg [bl (rN q),i64 (rV q)]from rfl]at hP
 unfold smD at *
 conv=>arg 2;whnf
 dsimp only[spB,smC]
 rw[hf]at hP ⊢
 dsimp only[rN,rV]at hP ⊢
 skip
 exact yA
open _root_.Go.Proofs.Tryz
theorem zTk(m:Img)(s:St)(op a b:Int)(ho:op=13\/op=16\/op=20)(h1:1<=s.stack.length)(hn:rN (s.top 0)=false)(hS:Sml s): SpTo m s op a b (s.stop 4):=by
 intro wb St0
 have hT:=zFB m s 0 (by omega) hS
 replace hT:zAb prog 31 [smD m s,i64 0] (rfD (s.top 0)):=hT
 have hP:=zDX m s 4
 generalize s.stop 4=s' at *
 generalize s.top 0=r at *
 unfold rfD at hT
 rw[hn]at hT
 unfold smD at *
 conv=>arg 2;whnf
 rcases ho with h|h|h <;> subst h
 all_goals
  exact yB
theorem zec(m:Img)(s:St)(a b x:Int)(h1:1<=s.stack.length)(hn:s.top 0=.n x)(hL:zL5 s)(hS:Sml s): SpTo m s 13 a b (s.raise x):=by
 intro wb St0
 have hT:=zFB m s 0 (by omega) hS
 replace hT:zAb prog 31 [smD m s,i64 0] (rfD (s.top 0)):=hT
 rw[hn]at hT
 have hP:=zLj m s x hL hS
 generalize s.raise x=s' at *
 rw[show rfD (.n x)=.agg [bl true,i64 x]from rfl]at hT
 unfold smD at *
 conv=>arg 2;whnf
 skip
 exact yB
theorem zeW(m:Img)(s:St)(a b x:Int)(c:Cn)(hb:0<=b)(hc:m.pool[b.toNat]?=some c)(h1:1<=s.stack.length)(hn:s.top 0=.n x)(hS:Sml s): SpTo m s 20 a b (if x≠c.num then s.goto a else s):=by
 intro wb St0
 have hT:=zFB m s 0 (by omega) hS
 replace hT:zAb prog 31 [smD m s,i64 0] (rfD (s.top 0)):=hT
 rw[hn]at hT
 rw[show rfD (.n x)=.agg [bl true,i64 x]from rfl]at hT
 unfold St.goto
 dsimp only
 by_cases hx:x=c.num
 ·rw[if_neg (fun h=>h hx)]
  unfold smD at *
  conv=>arg 2;whnf
  skip
  exact yA
 ·rw[if_pos hx]
  unfold smD at *
  conv=>arg 2;whnf
  skip
  exact yA
theorem sp_9(m:Img)(s:St)(a b:Int)(c:Cl)(h1:1<=s.stack.length)(hc:s.calls.getLast? = some c)(hb:0<=s.c.base/\s.c.base<=s.stack.length)(hS:Sml s):
  SpTo m s 9 a b { s with stack:=s.stack.take s.c.base.toNat++[s.top 0],c:=(some c).getD default,calls:=s.calls.dropLast }:=by
 intro wb St0
 have hs1:=hS.stack
 have hs2:=hS.calls
 have hT:=zFB m s 0 (by omega) hS
 replace hT:zAb prog 31 [smD m s,i64 0] (rfD (s.top 0)):=hT
 have hle:(s.stack.take s.c.base.toNat).length<=s.stack.length:=by rw[qAG];omega
 have hp:0<s.calls.length:=by cases hq:s.calls with
  |nil=>rw[hq]at hc;cases hc
  |cons=>simp
 have ei:((s.calls.length:Int)-1).toNat=s.calls.length-1:=by omega
 have ht:s.calls[((s.calls.length:Int)-1).toNat]?=some c:=by rw[ei,<-qBG];exact hc
 have htt:(s.calls.map clD)[((s.calls.length:Int)-1).toNat]?=some (.agg [i64 c.at_,i64 c.base,bl (rN c.fun_),i64 (rV c.fun_)]):=by rw[qAH,ht];rfl
 have ed:s.calls.dropLast=s.calls.take ((s.calls.length:Int)-1).toNat:=by rw[ei,qBF]
 have hcc:((s.calls.take ((s.calls.length:Int)-1).toNat).map clD).length*32<=140737488355328/\((s.calls.take ((s.calls.length:Int)-1).toNat).map clD).length<=140737488355328:=by rw[qAC,qAG];omega
 have ha:(s.stack.take s.c.base.toNat++[s.top 0]).map rfD=(s.stack.take s.c.base.toNat).map rfD++[.agg [bl (rN (s.top 0)),i64 (rV (s.top 0))]]:=qAU
 rw[ed]
 unfold smD
 dsimp only[qBY]
 rw[ha]
 generalize s.top 0=r at *
 rw[show rfD r=.agg [bl (rN r),i64 (rV r)]from rfl]at hT
 unfold smD at hT
 clear ha ei ed
 conv=>arg 2;whnf
 skip
 repeat' first|(refine zTd (id:=28) ?_)|apply en_n|apply zAE|apply zAA|apply zAB|apply w0|exact ycA zBw hT|refine aAlA ?_|refine ayA rfl ?_|refine ayQ rfl ?_|apply ay (hd:=rfl)|(refine w0' ?_)|refine aStA ?_|refine zAJ rfl ?_|refine zAI rfl ?_|apply zAO
 all_goals first|omega|skip
 refine Stop.go ?_
 have hln:((s.stack.take s.c.base.toNat).map rfD).length=(s.stack.take s.c.base.toNat).length:=qAC _
 by_cases hE:s.stack.take s.c.base.toNat=[]
 case' pos =>
  have he:(s.stack.take s.c.base.toNat).map rfD=[]:=by rw[hE];rfl
  have hco:∀η:List Ob,Co η (SV.d (.slice ((s.stack.take s.c.base.toNat).map rfD))) (.slice []):=fun η=>by rw[he];exact zA0 rfl
  rw[he]
  skip
  repeat' first|(refine zCi (id:=29) ?_)|apply en_n|apply zAB|apply w0|exact zC9 zBa zBC zDD rfl|exact zHf rfl (hco _) zBC|(apply zEH (ys:=[.agg [bl (rN r),i64 (rV r)]]);exact rfl;exact zA0 rfl;(with_reducible exact zBa);(with_reducible exact zBC);(with_reducible exact zDw);(with_reducible exact zDx);exact(fun d hd=>by rw[qAM.1 hd];rfl);exact(by simp))|(refine zCJ (by kernel_rfl) ?_;refine aStA ?_)|refine ayA rfl ?_|refine ayL rfl ?_|apply ay (hd:=rfl)|(apply zGm;(first|exact zA0 rfl|exact zBX rfl rfl rfl|exact Co_nn rfl);(with_reducible exact zBC);exact rfl;exact fun _=>rfl)|(refine w0' ?_)|refine awDA ?_
  all_goals first|omega|skip
 case' neg =>
  have hpos:0<(s.stack.take s.c.base.toNat).length:=qA3.2 hE
  have h0:Nat.blt 0 ((s.stack.take s.c.base.toNat).map rfD).length=true:=by rw[hln];simpa using hpos
  have hcp:((s.stack.take s.c.base.toNat).map rfD).length*16<=140737488355328/\((s.stack.take s.c.base.toNat).map rfD).length<=140737488355328:=by rw[hln];omega
  have hc1:((s.stack.take s.c.base.toNat).length+1)*16<=140737488355328/\(s.stack.take s.c.base.toNat).length+1<=140737488355328:=by omega
  refine zEd [.d (.tsl []),.ptr 0 (0+5),.d (.slice (s.stack.map rfD)),.ptr 0 (0+6),.ptr 0 (0+6+1),.d (i64 s.c.base),.d (.slice ((s.stack.take s.c.base.toNat).map rfD)),.buf 4 (s.stack.take s.c.base.toNat).length,.d (.agg [bl (rN r),i64 (rV r)]),.d (.slice [.agg [bl (rN r),i64 (rV r)]])] [7]
   [spB m s 9 a b++[.box [.d (bl (rN r)),.d (i64 (rV r))]],spB m s 9 a b++[.box [.d (bl (rN r)),.d (i64 (rV r))],.buf false 78 2 ((s.stack.take s.c.base.toNat).map rfD)]] (by kernel_rfl) (by kernel_rfl) rfl (.inr (by kernel_rfl)) rfl (by kernel_rfl) rfl rfl ?_ ?_
  ·refine zBN rfl rfl rfl (fun η=>zC9 zBa zBC zDD rfl) ?_
   refine zBN rfl rfl rfl (fun η=>zAF rfl zCV) ?_
   refine zDG 0 0 rfl rfl rfl (by decide +kernel) (by decide +kernel) (zBc (zAG rfl zCB rfl rfl) zCl) ?_
   refine zBN rfl rfl rfl (fun η=>zAF rfl zCZ) ?_
   refine zBN rfl rfl rfl (fun η=>zAF rfl zG0) ?_
   refine zDG 0 0 rfl rfl rfl (by decide +kernel) (by decide +kernel) (zBc (zAG rfl zAY rfl rfl) zCl) ?_
   refine zBN rfl rfl rfl (fun η=>zGm (L:=s.stack) (enc:=rfD) (zA0 rfl) zBC rfl (fun _=>rfl) hb) ?_
   refine zGH 0 rfl rfl rfl rfl h0 zBa zBC zDw zDx (zJs _) hcp rfl rfl hln rfl rfl ?_
   refine zDG 0 1 rfl rfl rfl (by decide +kernel) (by decide +kernel) (zBc (zAT rfl zA7 rfl rfl rfl) (zBc (zAT rfl zA7 rfl rfl rfl) zCl)) ?_
   refine zBN rfl rfl rfl (fun η=>zCA zBa zBC zDD rfl rfl (zAN rfl zAH) rfl) ?_
   exact zFQ
  skip
  repeat' first|(refine zCi (id:=29) ?_)|apply en_n|apply zAB|apply w0|(refine zCJ (by kernel_rfl) ?_;refine aStA ?_)|(refine zCJ (by kernel_rfl) ?_;apply aApp (id:=4) (ys:=[.agg [bl (rN r),i64 (rV r)]]) (hd:=rfl) (hro:=rfl);exact rfl;exact rfl;exact zA0 rfl;exact hln.symm;exact rfl;(with_reducible exact zBa);(with_reducible exact zBC);(with_reducible exact zDw);(with_reducible exact zDx);exact(fun d hd=>by rw[qAM.1 hd];rfl);exact hc1)|refine ayA rfl ?_|(refine w0' ?_)
  all_goals first|omega|skip
  refine Stop.go ?_
  refine zBW (s:=[(1,.ptr 0 0),(2,.ptr 1 0)]) (h:=[.box ((smC m s).set 5 (.buf 4 ((s.stack.take s.c.base.toNat).length+1))),.box smZ,.gone,.gone,.buf false 78 2 ((s.stack.take s.c.base.toNat).map rfD++[.agg [bl (rN r),i64 (rV r)]])]) ?_ ?_
  ·exact zAU (Le_all rfl) (zAK rfl rfl (zAK rfl rfl (zDV rfl (zDV rfl (zAK rfl rfl zAe))))) rfl rfl
  refine zCb 0 5 rfl rfl (zDr rfl (by rw[qAE,hln];rfl)) ?_
 case' pos=>refine Stop.go ?_
 all_goals
  exact yK
end
section
theorem zZu: ∀(L:List Ty),∀d∈L.map tyD,d.flat.length=6:=fun L d hd=>by obtain⟨c,_,rfl⟩:=qA5.1 hd;rfl
attribute [local irreducible] zAL Program.underlying Ylds zA2 alex zBZ zBP awp zAb zBh zBg zAW zBF zAp zCO zBG zBR zAr zBV zBY zBe zCQ zBM zA8 zBE JFit
theorem zeY(m:Img)(s:St)(a b:Int)(hS:Sml s):
  SpTo m s 17 a b { s with tries:=s.tries++[⟨{ s.c with at_:=a },s.stack.length,s.calls.length⟩] }:=by
 intro wb St0
 have hs1:=hS.stack
 have hs2:=hS.calls
 have hs3:=hS.tries
 have ha:(s.tries++[(⟨{ s.c with at_:=a },s.stack.length,s.calls.length⟩:Ty)]).map tyD=s.tries.map tyD++[.agg [i64 a,i64 s.c.base,bl (rN s.c.fun_),i64 (rV s.c.fun_),i64 (s.stack.length:Int),i64 (s.calls.length:Int)]]:=qAU
 unfold smD
 dsimp only
 rw[ha]
 clear ha
 conv=>arg 2;whnf
 skip
 repeat' first|(refine zTd (id:=41) ?_)|apply en_n|apply zAE|apply zAA|apply zAB|apply w0|(refine zBI (cs:=[i64 s.c.at_,i64 s.c.base,bl (rN s.c.fun_),i64 (rV s.c.fun_),i64 (s.stack.length:Int),i64 (s.calls.length:Int)]) zZi zPX (PD_d rfl rfl (PD_d rfl rfl (PD_d rfl rfl zCI))) rfl)|refine aAlA ?_|refine ayA rfl ?_|refine ayQ rfl ?_|apply ay (hd:=rfl)|(refine w0' ?_)|refine aStA ?_|refine zAJ rfl ?_|refine zAI rfl ?_|apply zAO
 all_goals first|omega|skip
 refine Stop.go ?_
 have hln:(s.tries.map tyD).length=s.tries.length:=qAC _
 by_cases hE:s.tries=[]
 case' pos =>
  have he:s.tries.map tyD=[]:=by rw[hE];rfl
  have hco:∀η:List Ob,Co η (SV.d (.slice (s.tries.map tyD))) (.slice []):=fun η=>by rw[he];exact zA0 rfl
  rw[he]
  skip
  repeat' first|(refine zCi (id:=42) ?_)|apply en_n|apply zAB|apply w0|exact zC9 zFr zEw zKp rfl|(apply zHf;exact rfl;(first|exact hco _|exact zA0 rfl);(with_reducible exact zEw))|(apply zEH (ys:=[.agg [i64 a,i64 s.c.base,bl (rN s.c.fun_),i64 (rV s.c.fun_),i64 (s.stack.length:Int),i64 (s.calls.length:Int)]]);exact rfl;exact zA0 rfl;(with_reducible exact zFr);(with_reducible exact zEw);(with_reducible exact zMj);(with_reducible exact zMm);exact(fun d hd=>by rw[qAM.1 hd];rfl);exact(by simp))|(refine zCJ (by kernel_rfl) ?_;refine aStA ?_)|refine ayA rfl ?_|refine ayL rfl ?_|apply ay (hd:=rfl)|(refine w0' ?_)|refine awDA ?_
  all_goals first|omega|skip
 case' neg =>
  have hpos:0<s.tries.length:=qA3.2 hE
  have h0:Nat.blt 0 (s.tries.map tyD).length=true:=by rw[hln];simpa using hpos
  have hcp:(s.tries.map tyD).length*48<=140737488355328/\(s.tries.map tyD).length<=140737488355328:=by rw[hln];omega
  have hc1:(s.tries.length+1)*48<=140737488355328/\s.tries.length+1<=140737488355328:=by omega
  refine zEd [.d (.tsl []),.ptr 0 (0+11),.d (.slice (s.tries.map tyD)),.buf 4 s.tries.length,.d (.agg [i64 a,i64 s.c.base,bl (rN s.c.fun_),i64 (rV s.c.fun_),i64 (s.stack.length:Int),i64 (s.calls.length:Int)]),.d (.slice [.agg [i64 a,i64 s.c.base,bl (rN s.c.fun_),i64 (rV s.c.fun_),i64 (s.stack.length:Int),i64 (s.calls.length:Int)]])] [3]
   [spB m s 17 a b++[.box [.d (i64 a),.d (i64 s.c.base),.d (bl (rN s.c.fun_)),.d (i64 (rV s.c.fun_)),.d (i64 (s.stack.length:Int)),.d (i64 (s.calls.length:Int))]],spB m s 17 a b++[.box [.d (i64 a),.d (i64 s.c.base),.d (bl (rN s.c.fun_)),.d (i64 (rV s.c.fun_)),.d (i64 (s.stack.length:Int)),.d (i64 (s.calls.length:Int))],.buf false 140 6 (s.tries.map tyD)]] (by kernel_rfl) (by kernel_rfl) rfl (.inr (by kernel_rfl)) rfl (by kernel_rfl) rfl rfl ?_ ?_
  ·refine zBN rfl rfl rfl (fun η=>zC9 zFr zEw zKp rfl) ?_
   refine zBN rfl rfl rfl (fun η=>zAF rfl zFU) ?_
   refine zDG 0 0 rfl rfl rfl (by decide +kernel) (by decide +kernel) (zBc (zAG rfl zGB rfl rfl) zCl) ?_
   refine zGH 0 rfl rfl rfl rfl h0 zFr zEw zMj zMm (zZu _) hcp rfl rfl hln rfl rfl ?_
   refine zDG 0 1 rfl rfl rfl (by decide +kernel) (by decide +kernel) (zBc (zAT rfl zJm rfl rfl rfl) (zBc (zAT rfl zJm rfl rfl rfl) zCl)) ?_
   refine zBN rfl rfl rfl (fun η=>zCA zFr zEw zKp rfl rfl (zAN rfl zAH) rfl) ?_
   exact zFQ
  skip
  repeat' first|(refine zCi (id:=42) ?_)|apply en_n|apply zAB|apply w0|(refine zCJ (by kernel_rfl) ?_;refine aStA ?_)|(refine zCJ (by kernel_rfl) ?_;apply aApp (id:=4) (ys:=[.agg [i64 a,i64 s.c.base,bl (rN s.c.fun_),i64 (rV s.c.fun_),i64 (s.stack.length:Int),i64 (s.calls.length:Int)]]) (hd:=rfl) (hro:=rfl);exact rfl;exact rfl;exact zA0 rfl;exact hln.symm;exact rfl;(with_reducible exact zFr);(with_reducible exact zEw);(with_reducible exact zMj);(with_reducible exact zMm);exact(fun d hd=>by rw[qAM.1 hd];rfl);exact hc1)|refine ayA rfl ?_|(refine w0' ?_)
  all_goals first|omega|skip
  refine Stop.go ?_
  refine zBW (s:=[(1,.ptr 0 0),(2,.ptr 1 0)]) (h:=[.box ((smC m s).set 11 (.buf 4 (s.tries.length+1))),.box smZ,.gone,.gone,.buf false 140 6 (s.tries.map tyD++[.agg [i64 a,i64 s.c.base,bl (rN s.c.fun_),i64 (rV s.c.fun_),i64 (s.stack.length:Int),i64 (s.calls.length:Int)]])]) ?_ ?_
  ·exact zAU (Le_all rfl) (zAK rfl rfl (zAK rfl rfl (zDV rfl (zDV rfl (zAK rfl rfl zAe))))) rfl rfl
  refine zCb 0 11 rfl rfl (zDr rfl (by rw[qAE,hln];rfl)) ?_
 case' pos=>refine Stop.go ?_
 all_goals
  repeat' first|apply en_n|apply zAE|apply zAA|apply zAB|apply w0|(refine zAX ?_)|(refine zAu ?_)|exact zA5|(with_reducible exact rfl)|(refine RV_c rfl rfl zAV rfl rfl ?_ ?_)|apply ay (hd:=rfl)|exact zAT rfl zAV rfl rfl rfl|(refine w0' ?_)|refine zAd rfl rfl rfl zAV rfl rfl rfl rfl ?_|apply zAM|apply en_r|apply eb_r
 all_goals first|omega|rfl|skip
