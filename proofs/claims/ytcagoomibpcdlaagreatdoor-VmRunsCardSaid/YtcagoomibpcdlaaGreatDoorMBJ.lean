import Derived.Test.YtcagoomibpcdlaaGreatDoorMAC
import Derived.Test.YtcagoomibpcdlaaGreatDoorMBR
set_option maxHeartbeats 16000000
namespace Go.Proofs.YtcagoomibpcdlaaGreatDoor
open Go.Sx Go.Vm
open _root_.Go.Proofs.Tryz
section
theorem zJs: ∀(L:List Rf),∀d∈L.map rfD,d.flat.length=2:=fun L d hd=>by obtain⟨c,_,rfl⟩:=qA5.1 hd;rfl
attribute [local irreducible] zAL Program.underlying Ylds zA2 alex zBZ zBP awp zAb zBh zBg zAW zBF zAp zCO zBG zBR zAr zBV zBY zBe zCQ zBM zA8 zBE
theorem zEF(m:Img)(s:St)(n:Nat)(r:Rf)(hn:n<=s.stack.length)(hS:Sml s): zAb prog 62 [smD m s,i64 (n:Int),rfD r] (smD m (s.instead n r)):=by
 have h1:=hS.stack
 have e:s.instead n r = { s with stack:=s.stack.take ((s.stack.length:Int)-(n:Int)).toNat++[r] }:=by unfold St.instead;rw[show ((s.stack.length:Int)-(n:Int)).toNat=s.stack.length-n by omega]
 rw[e]
 clear e hS
 obtain⟨wo,us,al,ly,stk,c,ca,tr,fi,nu,ou,sp⟩:=s
 dsimp only at *
 refine zB0 func62 rfl ntmps62 results62 rfl ?_
 intro wb St0
 have hlt:(stk.take ((stk.length:Int)-(n:Int)).toNat).length<=stk.length:=by rw[qAG];omega
 unfold smD rfD
 dsimp only
 have ha:∀T:List Rf,(T++[r]).map rfD=T.map rfD++[.agg [bl (rN r),i64 (rV r)]]:=fun T=>qAU
 rw[show (fun r=>D.agg [bl (rN r),i64 (rV r)])=rfD from rfl,ha]
 by_cases hT:stk.take ((stk.length:Int)-(n:Int)).toNat=[]
 ·have he:(stk.take ((stk.length:Int)-(n:Int)).toNat).map rfD=[]:=by rw[hT];rfl
  have hco:∀η:List Ob,Co η (SV.d (.slice ((stk.take ((stk.length:Int)-(n:Int)).toNat).map rfD))) (.slice []):=fun η=>by rw[he];exact zA0 rfl
  skip
  exact yH
 ·have hpos:0<(stk.take ((stk.length:Int)-(n:Int)).toNat).length:=qA3.2 hT
  have h0:Nat.blt 0 ((stk.take ((stk.length:Int)-(n:Int)).toNat).map rfD).length=true:=by rw[qAC];simpa using hpos
  have hcp:((stk.take ((stk.length:Int)-(n:Int)).toNat).map rfD).length*16<=140737488355328/\((stk.take ((stk.length:Int)-(n:Int)).toNat).map rfD).length<=140737488355328:=by rw[qAC];omega
  have hln:((stk.take ((stk.length:Int)-(n:Int)).toNat).map rfD).length=(stk.take ((stk.length:Int)-(n:Int)).toNat).length:=qAC _
  have hc1:((stk.take ((stk.length:Int)-(n:Int)).toNat).length+1)*16<=140737488355328/\(stk.take ((stk.length:Int)-(n:Int)).toNat).length+1<=140737488355328:=by omega
  skip
  repeat' first|(refine zCi (id:=1) ?_)|apply en_n|apply zAE|apply zAA|apply zAB|apply w0|refine aBoA ?_|refine aAlA ?_
  refine Stop.go ?_
  refine zAE ?_
  refine zEd [.d (.tsl []),.ptr 0 (0+5),.d (.slice (stk.map rfD)),.ptr 0 (0+5),.d (.slice (stk.map rfD)),.d (i64 (stk.length:Int)),.d (i64 (n:Int)),.d (i64 ((stk.length:Int)-(n:Int))),.d (.slice ((stk.take ((stk.length:Int)-(n:Int)).toNat).map rfD)),.buf 3 (stk.take ((stk.length:Int)-(n:Int)).toNat).length,.d (.agg [bl (rN r),i64 (rV r)]),.d (.slice [.agg [bl (rN r),i64 (rV r)]])] [9]
   [[.box [.d (.slice (m.pool.map enCn)),.d (.slice (m.code.map enIn)),.d (i64 wo),.d (i64 us),.d (.slice (al.map thD)),.d (.slice (stk.map rfD)),.d (i64 c.at_),.d (i64 c.base),.d (bl (rN c.fun_)),.d (i64 (rV c.fun_)),.d (.slice (ca.map clD)),.d (.slice (tr.map tyD)),.d (i64 fi),.d (i64 nu),.d (.slice (ou.map str)),.d (i64 sp)],.box [.d (bl (rN r)),.d (i64 (rV r))],.box (List.map cst [Value.slice none 0 0,Value.slice none 0 0,Value.int IntKind.i64 0,Value.int IntKind.i64 0,Value.slice none 0 0,Value.slice none 0 0,Value.int IntKind.i64 0,Value.int IntKind.i64 0,Value.bool false,Value.int IntKind.i64 0,Value.slice none 0 0,Value.slice none 0 0,Value.int IntKind.i64 0,Value.int IntKind.i64 0,Value.slice none 0 0,Value.int IntKind.i64 0])],[.box [.d (.slice (m.pool.map enCn)),.d (.slice (m.code.map enIn)),.d (i64 wo),.d (i64 us),.d (.slice (al.map thD)),.d (.slice (stk.map rfD)),.d (i64 c.at_),.d (i64 c.base),.d (bl (rN c.fun_)),.d (i64 (rV c.fun_)),.d (.slice (ca.map clD)),.d (.slice (tr.map tyD)),.d (i64 fi),.d (i64 nu),.d (.slice (ou.map str)),.d (i64 sp)],.box [.d (bl (rN r)),.d (i64 (rV r))],.box (List.map cst [Value.slice none 0 0,Value.slice none 0 0,Value.int IntKind.i64 0,Value.int IntKind.i64 0,Value.slice none 0 0,Value.slice none 0 0,Value.int IntKind.i64 0,Value.int IntKind.i64 0,Value.bool false,Value.int IntKind.i64 0,Value.slice none 0 0,Value.slice none 0 0,Value.int IntKind.i64 0,Value.int IntKind.i64 0,Value.slice none 0 0,Value.int IntKind.i64 0])]++[.buf false 78 2 ((stk.take ((stk.length:Int)-(n:Int)).toNat).map rfD)]] (by kernel_rfl) (by kernel_rfl) rfl (.inr (by kernel_rfl)) rfl (by kernel_rfl) rfl rfl ?_ ?_
  ·refine zBN rfl rfl rfl (fun η=>zC9 zBa zBC zDD rfl) ?_
   refine zBN rfl rfl rfl (fun η=>zAF rfl zCV) ?_
   refine zDG 0 0 rfl rfl rfl (by decide +kernel) (by decide +kernel) (zBc (zAG rfl zCB rfl rfl) zCl) ?_
   refine zBN rfl rfl rfl (fun η=>zAF rfl zCV) ?_
   refine zDG 0 0 rfl rfl rfl (by decide +kernel) (by decide +kernel) (zBc (zAG rfl zCB rfl rfl) zCl) ?_
   refine zBN rfl rfl rfl (fun η=>zAn rfl zC1) ?_
   refine zBN rfl rfl rfl (fun η=>zAD rfl) ?_
   refine zBN rfl rfl rfl (fun η=>zCe rfl rfl (by omega)) ?_
   refine zBN rfl rfl rfl (fun η=>zGm (L:=stk) (enc:=rfD) (zA0 rfl) zBC rfl (fun _=>rfl) (by omega)) ?_
   refine zGH 0 rfl rfl rfl rfl h0 zBa zBC zDw zDx (zJs _) hcp rfl rfl hln rfl rfl ?_
   refine zDG 0 1 rfl rfl rfl (by decide +kernel) (by decide +kernel) (zBc (zAT rfl zA7 rfl rfl rfl) (zBc (zAT rfl zA7 rfl rfl rfl) zCl)) ?_
   refine zBN rfl rfl rfl (fun η=>zCA zBa zBC zDD rfl rfl (zAN rfl zAH) rfl) ?_
   exact zFQ
  skip
  repeat' first|(refine zCi (id:=2) ?_)|apply en_n|apply zAB|apply w0|(refine zCJ (by kernel_rfl) ?_;refine aStA ?_)|(refine zCJ (by kernel_rfl) ?_;apply aApp (id:=3) (ys:=[.agg [bl (rN r),i64 (rV r)]]) (hd:=rfl) (hro:=rfl);exact rfl;exact rfl;exact zA0 rfl;exact hln.symm;exact rfl;(with_reducible exact zBa);(with_reducible exact zBC);(with_reducible exact zDw);(with_reducible exact zDx);exact(fun d hd=>by rw[qAM.1 hd];rfl);exact hc1)|refine ayA rfl ?_|(refine w0' ?_)
  all_goals first|omega|skip
  refine Stop.go ?_
  refine zBW (s:=[(3,.ptr 0 0),(6,.ptr 2 0)]) (h:=[.box [.d (.slice (m.pool.map enCn)),.d (.slice (m.code.map enIn)),.d (i64 wo),.d (i64 us),.d (.slice (al.map thD)),.buf 3 ((stk.take ((stk.length:Int)-(n:Int)).toNat).length+1),.d (i64 c.at_),.d (i64 c.base),.d (bl (rN c.fun_)),.d (i64 (rV c.fun_)),.d (.slice (ca.map clD)),.d (.slice (tr.map tyD)),.d (i64 fi),.d (i64 nu),.d (.slice (ou.map str)),.d (i64 sp)],.box [.d (bl (rN r)),.d (i64 (rV r))],.box (List.map cst [Value.slice none 0 0,Value.slice none 0 0,Value.int IntKind.i64 0,Value.int IntKind.i64 0,Value.slice none 0 0,Value.slice none 0 0,Value.int IntKind.i64 0,Value.int IntKind.i64 0,Value.bool false,Value.int IntKind.i64 0,Value.slice none 0 0,Value.slice none 0 0,Value.int IntKind.i64 0,Value.int IntKind.i64 0,Value.slice none 0 0,Value.int IntKind.i64 0]),.buf false 78 2 ((stk.take ((stk.length:Int)-(n:Int)).toNat).map rfD++[.agg [bl (rN r),i64 (rV r)]])]) ?_ ?_
  ·exact zAU (Le_all rfl) (zAK rfl rfl (zAK rfl rfl (zD5 rfl zDA (zAK rfl rfl zAe)))) rfl rfl
  refine zCb 0 5 rfl rfl (zDr rfl (by rw[qAE,hln];rfl)) ?_
  exact yA
theorem zNT(m:Img)(s:St)(n:Nat)(x:Int)(hn:n<=s.stack.length)(hS:Sml s): zAb prog 109 [smD m s,i64 (n:Int),i64 x] (smD m (s.numI n x)):=by
 have hI:=zEF m s n (numR x) hn hS
 have hN:=zLl x
 rw[show s.instead n (numR x)=s.numI n x from rfl]at hI
 refine zB0 func109 rfl ntmps109 results109 rfl ?_
 intro wb St0
 generalize s.numI n x=s' at *
 generalize numR x=r at *
 unfold smD rfD at *
 exact yH
theorem zKb(m:Img)(s:St)(r:Rf)(hS:Sml s): zAb prog 61 [smD m s,rfD r] (smD m (s.push r)):=by
 have hI:=zEF m s 0 r (qAQ _) hS
 have hH:=zRQ m s 1 (by omega) hS
 have hT:=zDX m s 6
 replace hI:zAb prog 62 [smD m s,i64 0,rfD r] (smD m (s.instead 0 r)):=hI
 refine zB0 func61 rfl ntmps61 results61 rfl ?_
 intro wb St0
 unfold St.push
 cases hh:s.high 1
 all_goals
  rw[hh]at hH
  simp only[if_true,if_false,qBK]
  generalize s.instead 0 r=s' at *
  generalize s.stop 6=s'' at *
  unfold smD rfD at *
  exact yH
theorem zVL(m:Img)(s:St)(t:List UInt8)(hS:Sml s): zAb prog 110 [smD m s,str t] (smD m (s.put t)):=by
 have h1:=hS.out
 clear hS
 obtain⟨wo,us,al,ly,stk,c,ca,tr,fi,nu,ou,sp⟩:=s
 unfold St.put
 dsimp only at *
 have hc1:(0+(ou.map str).length)*16<=140737488355328/\0+(ou.map str).length<=140737488355328:=by rw[qAC];omega
 have hc2:(0+(ou.map str).length+1)*16<=140737488355328/\0+(ou.map str).length+1<=140737488355328:=by rw[qAC];omega
 have ha:(ou++[t]).map str=ou.map str++[str t]:=qAU
 refine zB0 func110 rfl ntmps110 results110 rfl ?_
 intro wb St0
 unfold smD
 dsimp only
 rw[ha]
 skip
 repeat' first|(refine zCi (id:=2) ?_)|apply en_n|apply zAE|apply zAA|apply zAB|apply w0|(apply zJ6 (hd:=rfl) (hro:=rfl);(with_reducible exact zFA);(with_reducible exact zEn);(with_reducible exact zKj);exact rfl)|refine aApA (id:=2) ?_ ?_|refine aBoA ?_|refine aAlA ?_|refine ayA rfl ?_|refine ayL rfl ?_|(refine w0' ?_)|refine aStA ?_
 all_goals first|rfl|omega|(simp only[qAC,qAN,qAj];omega)|skip
 refine Stop.go ?_
 refine zCb 0 14 rfl rfl (zDr rfl (by simp)) ?_
 exact yA
end
section
theorem zZv: ∀(L:List Thing),∀d∈L.map thD,d.flat.length=4:=fun L d hd=>by obtain⟨c,_,rfl⟩:=qA5.1 hd;rfl
def putD(w u:Int)(all:List Thing)(o:Thing): D:=if w-u<(o.need:Int)then .tup [hpD w u all,rfD (numR 0),bl false]else .tup [hpD w (u+(o.need:Int)) (all++[o]),rfD (.b all.length),bl true]
attribute [local irreducible] zAL Program.underlying Ylds zA2 alex zBZ zBP awp zAb zBh zBg zAW zBF zAp zCO zBG zBR zAr zBV zBY zBe zCQ zBM zA8 zBE
abbrev puB(w u:Int)(R:List D)(o:Thing): List Ob:=[.box [.d (i64 w),.d (i64 u),.d (.slice R)],.box [.d (i64 o.kind),.d (i64 o.tag),.d (str o.text),.d (.slice (o.parts.map rfD))]]
theorem zT9(w u:Int)(R:List D)(o:Thing)(n:Nat)(hn:R.length=n+1)(hb:n<=1000000)(wb:World)(St0:Stab):
  awp ⟨prog,38,wb,St0,fun _=>False,0⟩ (zEX 5 (zCw Tryz.f105)) (zA8 prog #[.cell 4 75,.cell 5 78,.tmp 6] (.tup [.agg [i64 w,i64 u,.slice R],.agg [bl false,i64 (n:Int)],bl true]))
   [(2,.ptr 0 0),(3,.ptr 1 0),(4,.ptr 2 0),(5,.ptr 3 0)] (puB w u R o++[.box (List.map cst [Value.int IntKind.i64 0,Value.int IntKind.i64 0,Value.slice none 0 0]),.box (List.map cst [Value.bool false,Value.int IntKind.i64 0])]):=by
 have hl:(R.length:Int)-1=(n:Int):=by omega
 conv=>arg 2;whnf
 refine zAE ?_
 refine zEd [.d (.agg [i64 w,i64 u,.slice R]),.ptr 0 (0+2),.d (.slice R),.d (i64 (R.length:Int)),.d (i64 ((R.length:Int)-1)),.d (.agg [bl false,i64 ((R.length:Int)-1)]),.top,.top,.d (bl true)] [6,7]
  [puB w u R o++[.box (List.map cst [Value.int IntKind.i64 0,Value.int IntKind.i64 0,Value.slice none 0 0]),.box (List.map cst [Value.bool false,Value.int IntKind.i64 0])],
   puB w u R o++[.box [.d (i64 w),.d (i64 u),.d (.slice R)],.box (List.map cst [Value.bool false,Value.int IntKind.i64 0])],
   puB w u R o++[.box [.d (i64 w),.d (i64 u),.d (.slice R)],.box [.d (bl false),.d (i64 ((R.length:Int)-1))]]] (by kernel_rfl) (by kernel_rfl) rfl (.inl rfl) rfl (by kernel_rfl) rfl rfl ?_ ?_
 ·refine zDG 0 0 rfl rfl rfl (by decide +kernel) (by decide +kernel) (zBc (zAT rfl zDl rfl rfl rfl) zCl) ?_
  refine zBN rfl rfl rfl (fun η=>zAF rfl zCS) ?_
  refine zDG 0 1 rfl rfl rfl (by decide +kernel) (by decide +kernel) (zBc (zAG rfl zC0 rfl rfl) (zBc (zAG rfl zC0 rfl rfl) zCl)) ?_
  refine zBN rfl rfl rfl (fun η=>zVw rfl zZk) ?_
  refine zBN rfl rfl rfl (fun η=>zCe rfl rfl (by omega)) ?_
  refine zBN rfl rfl rfl (fun η=>zBI (cs:=[bl false,i64 ((R.length:Int)-1)]) zTG zCt (PD_d rfl rfl zCI) rfl) ?_
  refine zIL 0 rfl rfl rfl rfl zDl rfl rfl rfl rfl rfl rfl ?_
  refine zIL 1 rfl rfl rfl rfl zA7 rfl rfl rfl rfl rfl rfl ?_
  refine zBN rfl rfl rfl (fun η=>zAC rfl) ?_
  exact zFQ
 rw[hl]
 skip
 exact yD
theorem zVN(w u:Int)(all:List Thing)(o:Thing)(hw:0<=w/\w<=1000000000)(hu:0<=u/\u<=1000000000)(hA:all.length<=1000000)(ht:o.text.length<=1000000)(hp:o.parts.length<=1000000): zAb prog 105 [hpD w u all,thD o] (putD w u all o):=by
 have hN:=zRR o ht hp
 have hZ:=zLl 0
 have hnb:o.need<=2000000:=by unfold Thing.need;split <;> omega
 refine zB0 func105 rfl ntmps105 results105 rfl ?_
 intro wb St0
 unfold putD
 generalize o.need=nd at *
 by_cases hlt:w-u<(nd:Int)
 ·rw[if_pos hlt]
  generalize numR 0=z at *
  unfold hpD thD rfD at *
  skip
  exact yD
 ·rw[if_neg hlt]
  have ha:(all++[o]).map thD=all.map thD++[.agg [i64 o.kind,i64 o.tag,str o.text,.slice (o.parts.map rfD)]]:=qAU
  have hvb:rfD (.b all.length)=.agg [bl false,i64 (all.length:Int)]:=rfl
  rw[hvb]
  unfold hpD at *
  rw[ha]
  unfold thD at hN
  by_cases hT:all=[]
  ·subst hT
   unfold thD
   skip
   repeat' first|(refine zCi (id:=6) ?_)|apply en_n|apply zAE|apply zAA|apply zAB|apply w0|exact ycA zFy hN|exact zC9 zFq zCn zKo rfl|exact zHf rfl (zA0 rfl) zCn|(apply zEH (ys:=[.agg [i64 o.kind,i64 o.tag,str o.text,.slice (o.parts.map rfD)]]);exact rfl;exact zA0 rfl;(with_reducible exact zFq);(with_reducible exact zCn);(with_reducible exact zMi);(with_reducible exact zMl);exact(fun d hd=>by rw[qAM.1 hd];rfl);exact(by simp))|(refine zCJ (by kernel_rfl) ?_;refine aStA ?_)|refine aBoA ?_|refine aAlA ?_|refine ayA rfl ?_|refine ayQ rfl ?_|refine ayL rfl ?_|apply ay (hd:=rfl)|refine zBp rfl rfl ?_|refine zCe rfl rfl ?_|(refine w0' ?_)|refine aStA ?_|refine zAI rfl ?_|apply zAP|refine awDA ?_
   all_goals first|omega|rfl|(simp only[qAj];omega)|skip
   refine Stop.go ?_
   refine zBW ?_ (zT9 w (u+(nd:Int)) [.agg [i64 o.kind,i64 o.tag,str o.text,.slice (o.parts.map rfD)]] o 0 rfl (by omega) wb St0)
   exact zAU (Le_all rfl) (zAK rfl rfl (zAK rfl rfl (zD5 rfl zDA (zD5 rfl zDA zAe)))) rfl rfl
  ·have hpos:0<all.length:=qA3.2 hT
   have hln:(all.map thD).length=all.length:=qAC _
   have h0:Nat.blt 0 (all.map thD).length=true:=by rw[hln];simpa using hpos
   have hcp:(all.map thD).length*56<=140737488355328/\(all.map thD).length<=140737488355328:=by rw[hln];omega
   have hc1:(all.length+1)*56<=140737488355328/\all.length+1<=140737488355328:=by omega
   generalize hR:all.map thD=R at *
   unfold thD
   skip
   repeat' first|(refine zCi (id:=5) ?_)|apply en_n|apply zAE|apply zAA|apply zAB|apply w0|exact ycA zFy hN|refine aBoA ?_|refine aAlA ?_|refine ayA rfl ?_|refine ayQ rfl ?_|apply ay (hd:=rfl)|refine zBp rfl rfl ?_|refine zCe rfl rfl ?_|(refine w0' ?_)|refine aStA ?_|refine zAI rfl ?_|apply zAP
   all_goals first|omega|skip
   refine Stop.go ?_
   refine zAE ?_
   refine zEd [.d (.tsl []),.ptr 0 (0+2),.d (.slice R),.buf 4 all.length,.d (.agg [i64 o.kind,i64 o.tag,str o.text,.slice (o.parts.map rfD)]),.d (.slice [.agg [i64 o.kind,i64 o.tag,str o.text,.slice (o.parts.map rfD)]])] [3]
    [[.box [.d (i64 w),.d (i64 (u+(nd:Int))),.d (.slice R)],.box [.d (i64 o.kind),.d (i64 o.tag),.d (str o.text),.d (.slice (o.parts.map rfD))],.box (List.map cst [Value.int IntKind.i64 0,Value.int IntKind.i64 0,Value.slice none 0 0]),.box (List.map cst [Value.bool false,Value.int IntKind.i64 0])],[.box [.d (i64 w),.d (i64 (u+(nd:Int))),.d (.slice R)],.box [.d (i64 o.kind),.d (i64 o.tag),.d (str o.text),.d (.slice (o.parts.map rfD))],.box (List.map cst [Value.int IntKind.i64 0,Value.int IntKind.i64 0,Value.slice none 0 0]),.box (List.map cst [Value.bool false,Value.int IntKind.i64 0])]++[.buf false 132 4 R]] (by kernel_rfl) (by kernel_rfl) rfl (.inr (by kernel_rfl)) rfl (by kernel_rfl) rfl rfl ?_ ?_
   ·refine zBN rfl rfl rfl (fun η=>zC9 zFq zCn zKo rfl) ?_
    refine zBN rfl rfl rfl (fun η=>zAF rfl zCS) ?_
    refine zDG 0 0 rfl rfl rfl (by decide +kernel) (by decide +kernel) (zBc (zAG rfl zC0 rfl rfl) zCl) ?_
    refine zGH 0 rfl rfl rfl rfl h0 zFq zCn zMi zMl (fun d hd=>zZv all d (hR▸hd)) hcp rfl rfl hln rfl rfl ?_
    refine zDG 0 1 rfl rfl rfl (by decide +kernel) (by decide +kernel) (zBc (zAT rfl zDk rfl rfl rfl) (zBc (zAT rfl zDk rfl rfl rfl) zCl)) ?_
    refine zBN rfl rfl rfl (fun η=>zCA zFq zCn zKo rfl rfl (zAN rfl zAH) rfl) ?_
    exact zFQ
   skip
   repeat' first|(refine zCi (id:=6) ?_)|apply en_n|apply zAB|apply w0|(refine zCJ (by kernel_rfl) ?_;refine aStA ?_)|(refine zCJ (by kernel_rfl) ?_;apply aApp (id:=4) (ys:=[.agg [i64 o.kind,i64 o.tag,str o.text,.slice (o.parts.map rfD)]]) (hd:=rfl) (hro:=rfl);exact rfl;exact rfl;exact zA0 rfl;exact hln.symm;exact rfl;(with_reducible exact zFq);(with_reducible exact zCn);(with_reducible exact zMi);(with_reducible exact zMl);exact(fun d hd=>by rw[qAM.1 hd];rfl);exact hc1)|refine ayA rfl ?_|(refine w0' ?_)
   all_goals first|omega|skip
   refine Stop.go ?_
   refine zBW (s:=[(2,.ptr 0 0),(3,.ptr 1 0),(4,.ptr 2 0),(5,.ptr 3 0)]) (h:=[.box [.d (i64 w),.d (i64 (u+(nd:Int))),.buf 4 (all.length+1)],.box [.d (i64 o.kind),.d (i64 o.tag),.d (str o.text),.d (.slice (o.parts.map rfD))],.box (List.map cst [Value.int IntKind.i64 0,Value.int IntKind.i64 0,Value.slice none 0 0]),.box (List.map cst [Value.bool false,Value.int IntKind.i64 0]),.buf false 132 4 (R++[.agg [i64 o.kind,i64 o.tag,str o.text,.slice (o.parts.map rfD)]])]) ?_ ?_
   ·exact zAU (Le_all rfl) (zAK rfl rfl (zAK rfl rfl (zD5 rfl zDA (zD5 rfl zDA (zAK rfl rfl zAe))))) rfl rfl
   refine zCb 0 2 rfl rfl (zDr rfl (by rw[qAE,hln];rfl)) ?_
   have hE:=zT9 w (u+(nd:Int)) (R++[D.agg [i64 o.kind,i64 o.tag,str o.text,.slice (o.parts.map rfD)]]) o all.length (by rw[qAE,hln];rfl) (by omega) wb St0
   refine zBW ?_ hE
   exact zAU (Le_all rfl) (zAK rfl rfl (zAK rfl rfl (zAK rfl rfl (zAK rfl rfl zAe)))) rfl rfl
