/- Parts. -/
import Derived.Test.YtjcgiiedaccjpaaGreatDoorMAU
set_option maxHeartbeats 16000000
namespace Go.Proofs.YtjcgiiedaccjpaaGreatDoor
open _root_.Go.Proofs.Tryz
open Go.Sx Go.Ev
theorem zJX(bs:List Nat)(l:List V): ∀d∈zCJ bs l,d.flat.length=1:=fun d hd=>by
 rw[zDE]at hd
 obtain⟨v,_,rfl⟩:=qAu.1 hd
 cases v <;> rfl
attribute [local irreducible] zAK Program.underlying Ylds zA3 alex zBc zBL awp zAc zBd zBi zBD zBI zDI zBS zA5 zBT zBY zBe zBs zC7 zBN VCall
theorem zQP(R:Rn)(s:S)(bs:List Nat)(hbs:bs.length=s.cells.length)(h0:s.fin≠0)(d:D)(a:V): R.To 49 [.ptr 0 0,.d (d),.d (encV bs a)] s bs s (fun y=>encV y a):=by
 refine Rn.to_of hbs func49 rfl ntmps49 results49 rfl ?_
 intro wb St0 X fx
 exact yT
theorem zSA(R:Rn)(s:S)(bs:List Nat)(hbs:bs.length=s.cells.length)(h0:s.fin=0)(n:List UInt8)(k:Nat)(env:Env)(a:V){s':S}{dv:List Nat->D}(hE:R.To 23 [.ptr 0 0,.d (i64 (k:Int)),.d (encE bs (.cons n a env))] s bs s' dv): R.To 49 [.ptr 0 0,.d (encV bs (.fn n k [] env)),.d (encV bs a)] s bs s' (dv):=by
 obtain⟨d2,e2⟩:=zCR bs a
 have hokE:=zGC bs env
 have hflE:=zE9 bs env
 rw[show encE bs (.cons n a env)=.ref [str n,encV bs a,encE bs env]from rfl]at hE
 rw[show encV bs (.fn n k [] env)=.ifc 112 (.ref [str n,i64 (k:Int),encE bs env,str []])from rfl]
 rw[e2]at hE ⊢
 generalize encE bs env=de at *
 generalize tyV a=t2 at *
 refine Rn.to_of hbs func49 rfl ntmps49 results49 rfl ?_
 intro wb St0 X fx
 repeat' first|(apply ay (hd:=rfl);apply zCk;exact rfl;exact rfl)|apply en_n|apply zAE|apply zAA|apply zAD|apply w0|exact zBg rfl rfl|exact zAS rfl|exact zCh rfl|(apply zDh;exact rfl;with_reducible exact zCS)|exact zGJ rfl rfl|(refine zAf (cs:=[str n,.ifc t2 d2,de]) zFk zFj (PD_d rfl rfl (PD_d rfl rfl (PD_d rfl hokE zA6))) (zIc _ _ _ hflE))|(refine zG4 (by kernel_rfl) ?_;refine zBQ 2 [0,1] zCe (hE) rfl rfl rfl rfl (SArgs_all rfl) rfl rfl (by decide) rfl rfl rfl rfl rfl rfl rfl (fun y0 hy0=>⟨rfl,rfl,rfl,zAb hy0.1 hbs hy0.2⟩) (fun y hy=>?_))|apply ay (hd:=rfl)|exact zAC rfl|exact zAB rfl|(apply zA1;exact rfl;(with_reducible first|exact zIn|exact zIm|exact zIl|exact zIk))|(apply zAR;exact rfl;(with_reducible first|exact zLg|exact zAd|exact zAr))|exact zAe rfl rfl|exact zAG rfl|exact zAH rfl zAy|exact zAJ rfl zAz rfl rfl|(apply zAw;exact rfl;all_goals intro hb)|refine zAN rfl ?_|refine zAQ rfl ?_|apply zAI|apply zAO|apply zAM|refine zAu (by kernel_rfl) (by kernel_rfl) ?_|apply en_r|apply eb_r
 all_goals first|exact absurd rfl hb|skip
 all_goals exact Rn.ret0 hy rfl rfl
theorem zQN(R:Rn)(s:S)(bs:List Nat)(hbs:bs.length=s.cells.length)(h0:s.fin=0)(n:List UInt8)(k:Nat)(self:List UInt8)(hs:self≠[])(env:Env)(a:V){s':S}{dv:List Nat->D}(hE:R.To 23 [.ptr 0 0,.d (i64 (k:Int)),.d (encE bs (.cons n a (.cons self (.fn n k self env) env)))] s bs s' dv): R.To 49 [.ptr 0 0,.d (encV bs (.fn n k self env)),.d (encV bs a)] s bs s' (dv):=by
 obtain⟨d2,e2⟩:=zCR bs a
 have hokE:=zGC bs env
 have hflE:=zE9 bs env
 rw[show encE bs (.cons n a (.cons self (.fn n k self env) env))=.ref [str n,encV bs a,.ref [str self,.ifc 112 (.ref [str n,i64 (k:Int),encE bs env,str self]),encE bs env]]from rfl]at hE
 rw[show encV bs (.fn n k self env)=.ifc 112 (.ref [str n,i64 (k:Int),encE bs env,str self])from rfl]
 rw[e2]at hE ⊢
 generalize encE bs env=de at *
 generalize tyV a=t2 at *
 refine Rn.to_of hbs func49 rfl ntmps49 results49 rfl ?_
 intro wb St0 X fx
 repeat' first|(apply ay (hd:=rfl);apply zCk;exact rfl;exact rfl)|apply en_n|apply zAE|apply zAA|apply zAD|apply w0|exact zBg rfl rfl|exact zAS rfl|exact zCh rfl|(apply zDh;exact rfl;with_reducible exact zCS)|exact zGJ rfl rfl|(refine zAf (cs:=[str self,.ifc 112 (.ref [str n,i64 (k:Int),de,str self]),de]) zFk zFj (PD_d rfl rfl (PD_d rfl rfl (PD_d rfl hokE zA6))) (zIc _ _ _ hflE))|(refine zAf (cs:=[str n,.ifc t2 d2,.ref [str self,.ifc 112 (.ref [str n,i64 (k:Int),de,str self]),de]]) zFk zFj (PD_d rfl rfl (PD_d rfl rfl (PD_d rfl rfl zA6))) rfl)|(apply zCY;exact rfl;(first|with_reducible exact zCS|with_reducible exact zCX|with_reducible exact zDA))|(refine zG4 (by kernel_rfl) ?_;refine zBQ 2 [0,1] zCe (hE) rfl rfl rfl rfl (SArgs_all rfl) rfl rfl (by decide) rfl rfl rfl rfl rfl rfl rfl (fun y0 hy0=>⟨rfl,rfl,rfl,zAb hy0.1 hbs hy0.2⟩) (fun y hy=>?_))|apply ay (hd:=rfl)|exact zAC rfl|exact zAB rfl|(apply zA1;exact rfl;(with_reducible first|exact zIn|exact zIm|exact zIl|exact zIk))|(apply zAR;exact rfl;(with_reducible first|exact zLg|exact zAd|exact zAr))|exact zAe rfl rfl|exact zAG rfl|exact zAH rfl zAy|exact zAJ rfl zAz rfl rfl|(apply zAw;exact rfl;all_goals intro hb)|refine zAN rfl ?_|refine zAQ rfl ?_|apply zAI|apply zAO|apply zAM|refine zAu (by kernel_rfl) (by kernel_rfl) ?_|apply en_r|apply eb_r
 all_goals first|exact absurd hs hb|skip
 all_goals exact Rn.ret0 hy rfl rfl
theorem zSB(R:Rn)(s:S)(bs:List Nat)(hbs:bs.length=s.cells.length)(h0:s.fin=0)(p:Nat)(args:List V)(a:V)(hl:args.length+1=pneed p)(hb1:args.length<=1000000){f:FuncId}{cs:List D}(hd:pdo p=.clo f cs)(hbf:zAK prog f=true){s':S}{dv:List Nat->D}(hE:R.To f ([.ptr 0 0,.d (.slice (zCJ bs (args++[a])))]++cs.map SV.d) s bs s' dv): R.To 49 [.ptr 0 0,.d (encV bs (.prim p args)),.d (encV bs a)] s bs s' (dv):=by
 obtain⟨d2,e2⟩:=zCR bs a
 have hsz:=zJX bs args
 have hal:=zCg bs args
 rw[zGA,show zCJ bs [a]=[encV bs a]from rfl]at hE
 rw[show encV bs (.prim p args)=.ifc 165 (.ref [str (zES p),i64 (pneed p:Int),pdo p,.slice (zCJ bs args)])from rfl,hd]
 rw[e2]at hE ⊢
 generalize zCJ bs args=da at *
 generalize tyV a=t2 at *
 generalize zES p=pn at *
 generalize pneed p=pk at *
 have hn:((da++[D.ifc t2 d2]).length:Int)=(pk:Int):=by rw[qAO,qAJ,qAa];omega
 refine Rn.to_of hbs func49 rfl ntmps49 results49 rfl ?_
 intro wb St0 X fx
 exact yK
theorem zNx(R:Rn)(s:S)(bs:List Nat)(hbs:bs.length=s.cells.length)(h0:s.fin=0)(p:Nat)(args:List V)(a:V)(hl:¬args.length+1=pneed p)(hb1:args.length<=1000000): R.To 49 [.ptr 0 0,.d (encV bs (.prim p args)),.d (encV bs a)] s bs s (fun y=>encV y (.prim p (args++[a]))):=by
 obtain⟨d2,e2⟩:=zCR bs a
 have hsz:=zJX bs args
 have hal:=zCg bs args
 have hr:encV bs (.prim p (args++[a]))=.ifc 165 (.ref [str (zES p),i64 (pneed p:Int),pdo p,.slice (zCJ bs args++[encV bs a])]):=by
  show D.ifc _ (.ref [_,_,_,.slice (zCJ bs (args++[a]))])=_
  rw[zGA];rfl
 rw[show encV bs (.prim p args)=.ifc 165 (.ref [str (zES p),i64 (pneed p:Int),pdo p,.slice (zCJ bs args)])from rfl]
 rw[e2]at hr ⊢
 generalize zCJ bs args=da at *
 generalize tyV a=t2 at *
 have hn:((da++[D.ifc t2 d2]).length:Int)≠(pneed p:Int):=by rw[qAO,qAJ,qAa];omega
 refine Rn.to_of hbs func49 rfl ntmps49 results49 rfl ?_
 intro wb St0 X fx
 exact yH
theorem zQQ(R:Rn)(s:S)(bs:List Nat)(hbs:bs.length=s.cells.length)(h0:s.fin=0)(m:List UInt8)(need:Nat)(args:List V)(a:V)(hl:args.length<need)(hb1:args.length<=1000000): R.To 49 [.ptr 0 0,.d (encV bs (.con m need args)),.d (encV bs a)] s bs s (fun y=>encV y (.con m need (args++[a]))):=by
 obtain⟨d2,e2⟩:=zCR bs a
 have hsz:=zJX bs args
 have hal:=zCg bs args
 have hr:encV bs (.con m need (args++[a]))=.ifc 108 (.ref [str m,.slice (zCJ bs args++[encV bs a]),i64 (need:Int)]):=by
  show D.ifc _ (.ref [_,.slice (zCJ bs (args++[a])),_])=_
  rw[zGA];rfl
 rw[show encV bs (.con m need args)=.ifc 108 (.ref [str m,.slice (zCJ bs args),i64 (need:Int)])from rfl]
 rw[e2]at hr ⊢
 generalize zCJ bs args=da at *
 generalize tyV a=t2 at *
 refine Rn.to_of hbs func49 rfl ntmps49 results49 rfl ?_
 intro wb St0 X fx
 exact yH
theorem zNy(R:Rn)(s:S)(bs:List Nat)(hbs:bs.length=s.cells.length)(h0:s.fin=0)(m:List UInt8)(need:Nat)(args:List V)(a:V)(hl:¬args.length<need): R.To 49 [.ptr 0 0,.d (encV bs (.con m need args)),.d (encV bs a)] s bs (s.stop 4).2 (fun _=>encV [] (.num 0)):=by
 have hs:=zEF R s bs hbs 4
 have hal:=zCg bs args
 rw[show encV bs (.con m need args)=.ifc 108 (.ref [str m,.slice (zCJ bs args),i64 (need:Int)])from rfl]
 generalize zCJ bs args=da at *
 refine Rn.to_of hbs func49 rfl ntmps49 results49 rfl ?_
 intro wb St0 X fx
 exact yK
theorem zH6(R:Rn)(s:S)(bs:List Nat)(hbs:bs.length=s.cells.length)(h0:s.fin=0){t1:TypeId}(d1:D)(h1:Nat.beq t1 112=false)(h2:Nat.beq t1 165=false)(h3:Nat.beq t1 108=false)(a:V): R.To 49 [.ptr 0 0,.d (.ifc t1 d1),.d (encV bs a)] s bs (s.stop 4).2 (fun _=>encV [] (.num 0)):=by
 have hs:=zEF R s bs hbs 4
 refine Rn.to_of hbs func49 rfl ntmps49 results49 rfl ?_
 intro wb St0 X fx
 exact yK
