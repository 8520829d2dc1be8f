/- Parts. -/
import Derived.Test.YtjcgiiedaccjpaaGreatDoorPAR
set_option maxHeartbeats 16000000
namespace Go.Proofs.YtjcgiiedaccjpaaGreatDoor
open _root_.Go.Proofs.Tryz
open Go.Sx Go.Ev
theorem zNG(bs:List Nat)(l:List V): ∀d∈zDQ bs l,d.flat.length=1:=fun d hd=>by
 rw[zEl]at hd
 obtain⟨v,_,rfl⟩:=qAo.1 hd
 cases v <;> rfl
attribute [local irreducible] zAQ Program.underlying Ylds zBJ alex zBk zBZ awp zAX FCall zBo zBR zBX zEg zBb zBD zBd zBj zBn zBu zEL zBP VCall
theorem zV5(R:Rn)(s:S)(bs:List Nat)(hbs:bs.length=s.cells.length)(h0:s.fin≠0)(d:D)(a:V): R.To 49 [.ptr 0 0,.d (d),.d (encV bs a)] s bs s (fun y=>encV y a):=by
 refine Rn.to_of hbs func49 rfl ntmps49 results49 rfl ?_
 intro wb St0 X fx
 exact yj
theorem zYG(R:Rn)(s:S)(bs:List Nat)(hbs:bs.length=s.cells.length)(h0:s.fin=0)(n:List UInt8)(k:Nat)(env:Env)(a:V){s':S}{dv:List Nat->D}(hE:R.To 23 [.ptr 0 0,.d (i64 (k:Int)),.d (encE bs (.cons n a env))] s bs s' dv): R.To 49 [.ptr 0 0,.d (encV bs (.fn n k [] env)),.d (encV bs a)] s bs s' (dv):=by
 obtain⟨d2,e2⟩:=zDX bs a
 have hokE:=zIs bs env
 have hflE:=zHP bs env
 rw[show encE bs (.cons n a env)=.ref [str n,encV bs a,encE bs env]from rfl]at hE
 rw[show encV bs (.fn n k [] env)=.ifc 112 (.ref [str n,i64 (k:Int),encE bs env,str []])from rfl]
 rw[e2]at hE ⊢
 generalize encE bs env=de at *
 generalize tyV a=t2 at *
 refine Rn.to_of hbs func49 rfl ntmps49 results49 rfl ?_
 intro wb St0 X fx
 repeat' first|(apply ay (hd:=rfl);apply zDr;exact rfl;exact rfl)|apply en_n|apply zAE|apply zAA|apply zAD|apply w0|exact zDq rfl|(apply zFN;exact rfl;with_reducible exact zDY)|exact zFL rfl rfl|(refine zAo (cs:=[str n,.ifc t2 d2,de]) zID zIB (PD_d rfl rfl (PD_d rfl rfl (PD_d rfl hokE zBE))) (zMC _ _ _ hflE))|(refine zEN kR ?_;refine zCH 2 [0,1] zDm (hE) rfl rfl rfl rfl (SArgs_all rfl) rfl rfl dC rfl rfl rfl rfl rfl rfl rfl (fun y0 hy0=>⟨rfl,rfl,rfl,zA1 hy0.1 hbs hy0.2⟩) (fun y hy=>?_))|refine ayA rfl ?_|refine ayQ rfl ?_|apply ay (hd:=rfl)|(apply zA3;exact rfl;all_goals intro hb)|refine zAJ rfl ?_|refine zAK rfl ?_|apply zAH|apply zAM|apply zAN|refine awDA ?_|apply en_r|apply eb_r
 all_goals first|exact absurd rfl hb|skip
 all_goals exact Rn.ret0 hy rfl rfl
theorem zV3(R:Rn)(s:S)(bs:List Nat)(hbs:bs.length=s.cells.length)(h0:s.fin=0)(n:List UInt8)(k:Nat)(self:List UInt8)(hs:self≠[])(env:Env)(a:V){s':S}{dv:List Nat->D}(hE:R.To 23 [.ptr 0 0,.d (i64 (k:Int)),.d (encE bs (.cons n a (.cons self (.fn n k self env) env)))] s bs s' dv): R.To 49 [.ptr 0 0,.d (encV bs (.fn n k self env)),.d (encV bs a)] s bs s' (dv):=by
 obtain⟨d2,e2⟩:=zDX bs a
 have hokE:=zIs bs env
 have hflE:=zHP bs env
 rw[show encE bs (.cons n a (.cons self (.fn n k self env) env))=.ref [str n,encV bs a,.ref [str self,.ifc 112 (.ref [str n,i64 (k:Int),encE bs env,str self]),encE bs env]]from rfl]at hE
 rw[show encV bs (.fn n k self env)=.ifc 112 (.ref [str n,i64 (k:Int),encE bs env,str self])from rfl]
 rw[e2]at hE ⊢
 generalize encE bs env=de at *
 generalize tyV a=t2 at *
 refine Rn.to_of hbs func49 rfl ntmps49 results49 rfl ?_
 intro wb St0 X fx
 repeat' first|(apply ay (hd:=rfl);apply zDr;exact rfl;exact rfl)|apply en_n|apply zAE|apply zAA|apply zAD|apply w0|exact zDq rfl|(apply zFN;exact rfl;with_reducible exact zDY)|exact zFL rfl rfl|(refine zAo (cs:=[str self,.ifc 112 (.ref [str n,i64 (k:Int),de,str self]),de]) zID zIB (PD_d rfl rfl (PD_d rfl rfl (PD_d rfl hokE zBE))) (zMC _ _ _ hflE))|(refine zAo (cs:=[str n,.ifc t2 d2,.ref [str self,.ifc 112 (.ref [str n,i64 (k:Int),de,str self]),de]]) zID zIB (PD_d rfl rfl (PD_d rfl rfl (PD_d rfl rfl zBE))) rfl)|(apply zDj;exact rfl;(first|with_reducible exact zDY|with_reducible exact zDi|with_reducible exact zEc))|(refine zEN kR ?_;refine zCH 2 [0,1] zDm (hE) rfl rfl rfl rfl (SArgs_all rfl) rfl rfl dC rfl rfl rfl rfl rfl rfl rfl (fun y0 hy0=>⟨rfl,rfl,rfl,zA1 hy0.1 hbs hy0.2⟩) (fun y hy=>?_))|refine ayA rfl ?_|refine ayQ rfl ?_|apply ay (hd:=rfl)|(apply zA3;exact rfl;all_goals intro hb)|refine zAJ rfl ?_|refine zAK rfl ?_|apply zAH|apply zAM|apply zAN|refine awDA ?_|apply en_r|apply eb_r
 all_goals first|exact absurd hs hb|skip
 all_goals exact Rn.ret0 hy rfl rfl
theorem zYH(R:Rn)(s:S)(bs:List Nat)(hbs:bs.length=s.cells.length)(h0:s.fin=0)(p:Nat)(args:List V)(a:V)(hl:args.length+1=pneed p)(hb1:args.length<=1000000){f:FuncId}{cs:List D}(hd:pdo p=.clo f cs)(hbf:zAQ prog f=true){s':S}{dv:List Nat->D}(hE:R.To f ([.ptr 0 0,.d (.slice (zDQ bs (args++[a])))]++cs.map SV.d) s bs s' dv): R.To 49 [.ptr 0 0,.d (encV bs (.prim p args)),.d (encV bs a)] s bs s' (dv):=by
 obtain⟨d2,e2⟩:=zDX bs a
 have hsz:=zNG bs args
 have hal:=zDp bs args
 rw[zIq,show zDQ bs [a]=[encV bs a]from rfl]at hE
 rw[show encV bs (.prim p args)=.ifc 165 (.ref [str (zCS p),i64 (pneed p:Int),pdo p,.slice (zDQ bs args)])from rfl,hd]
 rw[e2]at hE ⊢
 generalize zDQ bs args=da at *
 generalize tyV a=t2 at *
 generalize zCS p=pn at *
 generalize pneed p=pk at *
 have hn:((da++[D.ifc t2 d2]).length:Int)=(pk:Int):=by rw[qAH,qAK,qAb];omega
 refine Rn.to_of hbs func49 rfl ntmps49 results49 rfl ?_
 intro wb St0 X fx
 exact yU
theorem zS1(R:Rn)(s:S)(bs:List Nat)(hbs:bs.length=s.cells.length)(h0:s.fin=0)(p:Nat)(args:List V)(a:V)(hl:¬args.length+1=pneed p)(hb1:args.length<=1000000): R.To 49 [.ptr 0 0,.d (encV bs (.prim p args)),.d (encV bs a)] s bs s (fun y=>encV y (.prim p (args++[a]))):=by
 obtain⟨d2,e2⟩:=zDX bs a
 have hsz:=zNG bs args
 have hal:=zDp bs args
 have hr:encV bs (.prim p (args++[a]))=.ifc 165 (.ref [str (zCS p),i64 (pneed p:Int),pdo p,.slice (zDQ bs args++[encV bs a])]):=by
  show D.ifc _ (.ref [_,_,_,.slice (zDQ bs (args++[a]))])=_
  rw[zIq];rfl
 rw[show encV bs (.prim p args)=.ifc 165 (.ref [str (zCS p),i64 (pneed p:Int),pdo p,.slice (zDQ bs args)])from rfl]
 rw[e2]at hr ⊢
 generalize zDQ bs args=da at *
 generalize tyV a=t2 at *
 have hn:((da++[D.ifc t2 d2]).length:Int)≠(pneed p:Int):=by rw[qAH,qAK,qAb];omega
 refine Rn.to_of hbs func49 rfl ntmps49 results49 rfl ?_
 intro wb St0 X fx
 exact yN
theorem zV6(R:Rn)(s:S)(bs:List Nat)(hbs:bs.length=s.cells.length)(h0:s.fin=0)(m:List UInt8)(need:Nat)(args:List V)(a:V)(hl:args.length<need)(hb1:args.length<=1000000): R.To 49 [.ptr 0 0,.d (encV bs (.con m need args)),.d (encV bs a)] s bs s (fun y=>encV y (.con m need (args++[a]))):=by
 obtain⟨d2,e2⟩:=zDX bs a
 have hsz:=zNG bs args
 have hal:=zDp bs args
 have hr:encV bs (.con m need (args++[a]))=.ifc 108 (.ref [str m,.slice (zDQ bs args++[encV bs a]),i64 (need:Int)]):=by
  show D.ifc _ (.ref [_,.slice (zDQ bs (args++[a])),_])=_
  rw[zIq];rfl
 rw[show encV bs (.con m need args)=.ifc 108 (.ref [str m,.slice (zDQ bs args),i64 (need:Int)])from rfl]
 rw[e2]at hr ⊢
 generalize zDQ bs args=da at *
 generalize tyV a=t2 at *
 refine Rn.to_of hbs func49 rfl ntmps49 results49 rfl ?_
 intro wb St0 X fx
 exact yN
theorem zS2(R:Rn)(s:S)(bs:List Nat)(hbs:bs.length=s.cells.length)(h0:s.fin=0)(m:List UInt8)(need:Nat)(args:List V)(a:V)(hl:¬args.length<need): R.To 49 [.ptr 0 0,.d (encV bs (.con m need args)),.d (encV bs a)] s bs (s.stop 4).2 (fun _=>encV [] (.num 0)):=by
 have hs:=zF8 R s bs hbs 4
 have hal:=zDp bs args
 rw[show encV bs (.con m need args)=.ifc 108 (.ref [str m,.slice (zDQ bs args),i64 (need:Int)])from rfl]
 generalize zDQ bs args=da at *
 refine Rn.to_of hbs func49 rfl ntmps49 results49 rfl ?_
 intro wb St0 X fx
 exact yU
theorem zLO(R:Rn)(s:S)(bs:List Nat)(hbs:bs.length=s.cells.length)(h0:s.fin=0){t1:TypeId}(d1:D)(h1:Nat.beq t1 112=false)(h2:Nat.beq t1 165=false)(h3:Nat.beq t1 108=false)(a:V): R.To 49 [.ptr 0 0,.d (.ifc t1 d1),.d (encV bs a)] s bs (s.stop 4).2 (fun _=>encV [] (.num 0)):=by
 have hs:=zF8 R s bs hbs 4
 refine Rn.to_of hbs func49 rfl ntmps49 results49 rfl ?_
 intro wb St0 X fx
 exact yU
