/- Parts. -/
import Derived.Test.YtjcgiiedaccjpaaGreatDoorMBS
set_option maxHeartbeats 16000000
namespace Go.Proofs.YtjcgiiedaccjpaaGreatDoor
open _root_.Go.Proofs.Tryz
open Go.Sx Go.Ev
attribute [local irreducible] zAK Program.underlying Ylds zA3 alex zBc zBL awp zAc zBd zBi zBD zBI zDI zBS zA5 zBT zBY zBe zBs zC7 zBN VCall Go.Sx.Met
theorem zJa{R:Rn}(hR:R.Ok)(h0:ExAt R 0)(hV:zAc prog 12 [dts R.T,zAm R.L] (i64 0)): zAc prog 8 [dts R.T,zAm R.L,i64 (R.fuel:Int)] (.tup [snS (Go.Ev.seen shwW R.pg),i64 0]):=by
 have hfu:=hR.fuel
 have hC:Cn R (R.fuel+1) Go.Ev.start 0:=⟨trivial,trivial,qAM _,qAM _,qAR _,Nat.lt_succ_self _⟩
 have hE:Ce R Go.Ev.start 0 .nil:=⟨trivial,trivial⟩
 have hX:=zSf hR (R.fuel+1) Go.Ev.start 0 .nil [] 0 hC h0 hE rfl
 have hN:=hC.next h0 hE
 rw[ExTo]at hX
 unfold Go.Ev.seen
 rw[show R.pg.fuel=R.fuel from rfl]
 generalize exp shwW R.pg (R.fuel+1) Go.Ev.start 0 .nil=r at *
 obtain⟨v,s⟩:=r
 have hN1:0+(s.steps-Go.Ev.start.steps)<=100000:=by have:=hN.cn.le;dsimp only at this;omega
 have hlen:=zOW v [] (qAR _)
 have hS:∀y,zBD prog (zNH v) [.d (payV y v),.nil] [] (.buf 0 (sh [] v).length) (shV (sh [] v)):=fun y=>zOz (k:=0) [.d (payV y v)] [] rfl (zUW hN1 y v hN.vo [] (qAR _))
 have hmet:=zUk v
 have hbv:=hb_v v
 dsimp only at hX ⊢
 rw[zGB]at hX
 clear hC hE hN hN1 h0 hR
 generalize sh [] v=L' at *
 generalize zNH v=sf at *
 generalize tyV v=ty at *
 have hn1:¬(R.fuel:Int)<0:=by omega
 have hn2:¬(R.fuel:Int)>100000:=by omega
 refine zET func8 rfl ntmps8 results8 rfl ?_
 intro wb St0
 repeat' first|(refine zLc (id:=7) ?_)|(apply zK0;(with_reducible exact zTy);(with_reducible exact zTw);exact zIA rfl (zIA rfl (zIA rfl zSt));exact rfl;exact rfl;exact rfl;exact rfl)|apply en_n|apply zAE|apply zAA|apply zAD|apply w0|exact zCT rfl rfl|exact zC4 rfl rfl|exact zBg rfl rfl|(refine zAU zJH hV (CoLA rfl))|(apply zBF (hd:=rfl) (hro:=rfl);(with_reducible exact zCb))|apply ay (hd:=rfl)|exact zAC rfl|exact zAB rfl|exact zAj rfl rfl|exact zGx rfl|refine w1 rfl rfl ?_|refine zAQ rfl ?_|apply zAO
 all_goals first|omega|skip
 refine Stop.go ?_
 refine zGv 1 4 true 9 1 rfl rfl rfl ?_
 refine zJd (s:=[(6,.ptr 0 0),(9,.ptr 1 0)]) (h:=[.box [.d (i64 0),.nil,.d (i64 0),.nil,.d (i64 0)],.box [.d (zAm R.L),.d (dts R.T),.d (i64 (R.fuel:Int)),.d (i64 0),.buf 2 0,.d (i64 0),.d (i64 0)],.buf true 9 1 []]) (zAV (Le_all rfl) (zVZ rfl zSs (zVZ rfl zSs (zAT rfl rfl zAW))) rfl rfl) ?_
 skip
 repeat' first|(refine zLc (id:=8) ?_)|apply en_n|apply zAE|apply zAA|apply zAD|apply w0|(refine zBQ 3 [1,2] zCe (hX) rfl rfl rfl rfl (SArgs_all rfl) rfl rfl (by decide) rfl rfl rfl rfl rfl rfl rfl (fun y0 hy0=>⟨rfl,rfl,rfl,zAb hy0.1 rfl hy0.2⟩) (fun y hy=>?_))|apply ay (hd:=rfl)|exact zAB rfl|exact zAG rfl
 all_goals refine Stop.go ?_
 refine zJd (s:=[(6,.ptr 0 0),(9,.ptr 1 0),(10,.d (.ifc ty (payV y v)))]) (h:=[.box [.d (i64 0),.nil,.d (i64 0),.nil,.d (i64 0)],.box [.d (zAm R.L),.d (dts R.T),.d (i64 (R.fuel:Int)),.d (i64 (s.steps:Int)),.buf 2 s.out.length,.d (i64 s.fin),.d (i64 s.raised)],.buf true 9 1 (s.out.map str)]) (zAV (Le_all rfl) (zAT rfl rfl (zAT rfl rfl (zAT rfl rfl zAW))) rfl rfl) ?_
 refine zGl 2 (mu:=true) rfl rfl ?_
 refine zKt 1 4 (d:=.slice (s.out.map str)) rfl rfl (zK7 rfl (qAK _).symm) ?_
 by_cases hfin:s.fin=0
 ·rw[if_pos hfin]
  rcases qAI 4000 L'.length with hbig|hfit
  ·have hq:(L'.length:Int)>4000:=by omega
   rw[if_neg (by omega)]
   skip
   repeat' first|(refine zBH (id:=8) [.y (.ptr 1 0),.y (.ptr 1 0),.y (.ptr 1 (0+5)),.y (.d (i64 s.fin)),.y (.ptr 1 0),.y (.ptr 1 0),.y (.ptr 1 (0+4)),.y (.d (.slice (s.out.map str))),.y (.ptr 1 0),.y (.ptr 1 0),.y (.ptr 1 (0+3)),.y (.d (i64 (s.steps:Int))),.y (.d (.agg [i64 s.fin,.slice [],i64 0,.slice (s.out.map str),i64 (s.steps:Int)])),.mk ⟨11,[.int .i64 0,.slice none 0 0,.int .i64 0,.slice none 0 0,.int .i64 0],29,[.d (i64 s.fin),.d (.slice []),.d (i64 0),.d (.slice (s.out.map str)),.d (i64 (s.steps:Int))]⟩ (some 14),.st 13 ⟨11,[.int .i64 0,.slice none 0 0,.int .i64 0,.slice none 0 0,.int .i64 0],29,[.d (i64 s.fin),.d (.slice []),.d (i64 0),.d (.slice (s.out.map str)),.d (i64 (s.steps:Int))]⟩] (by kernel_rfl) (by kernel_rfl) (.inl rfl) ⟨⟨rfl,zAG rfl⟩,rfl,⟨rfl,zAS rfl⟩,rfl,⟨rfl,zAH rfl zAy⟩,rfl,⟨rfl,zAJ rfl zAz rfl rfl⟩,rfl,⟨rfl,zAG rfl⟩,rfl,⟨rfl,zAS rfl⟩,rfl,⟨rfl,zAH rfl zDd⟩,rfl,⟨rfl,zAJ rfl zCH rfl rfl⟩,rfl,⟨rfl,zAG rfl⟩,rfl,⟨rfl,zAS rfl⟩,rfl,⟨rfl,zAH rfl zBG⟩,rfl,⟨rfl,zAJ rfl zJo rfl rfl⟩,rfl,⟨rfl,zAf (cs:=[i64 s.fin,.slice [],i64 0,.slice (s.out.map str),i64 (s.steps:Int)]) zF8 zCb (PD_d rfl rfl (PD_d rfl rfl (PD_d rfl rfl zA6))) rfl⟩,rfl,⟨rfl,rfl,rfl,zCb,by kernel_rfl,rfl⟩,rfl,⟨⟨_,_,_,_,_,rfl,rfl,rfl,zBt,rfl⟩,rfl,rfl,rfl,rfl,rfl⟩,trivial⟩ ?_)|(refine zLc (id:=17) ?_)|apply en_n|apply zAE|apply zAA|apply zAD|apply w0|(refine zLr [] ?_ hmet hbv (hS y) (SArgs_all rfl) rfl rfl (by decide) rfl rfl rfl rfl rfl rfl ?_;exact rfl)|exact zDg rfl rfl|exact zBU rfl rfl|exact zAS rfl|apply ay (hd:=rfl)|exact zAC rfl|exact zAB rfl|exact zCj rfl zA8|exact zAG rfl|(apply zAH;exact rfl;(with_reducible first|exact zAy|exact zDx|exact zEZ))|(apply zAJ;exact rfl;(with_reducible first|exact zAz|exact zAY);exact rfl;exact rfl)|(refine w0' ?_)|(apply zAl;exact rfl;exact rfl;exact rfl;(with_reducible first|exact zAz|exact zAY);exact rfl;exact rfl;exact rfl;exact rfl)|refine zAN rfl ?_|apply zAI|apply eb_n
   all_goals first|omega|skip
   refine Stop.go ?_
   skip
   exact yR
  ·have hq:¬(L'.length:Int)>4000:=by omega
   rw[if_pos hfit]
   skip
   repeat' first|(refine zBH (id:=8) [.y (.ptr 1 0),.y (.ptr 1 0),.y (.ptr 1 (0+5)),.y (.d (i64 s.fin)),.y (.ptr 1 0),.y (.ptr 1 0),.y (.ptr 1 (0+4)),.y (.d (.slice (s.out.map str))),.y (.ptr 1 0),.y (.ptr 1 0),.y (.ptr 1 (0+3)),.y (.d (i64 (s.steps:Int))),.y (.d (.agg [i64 s.fin,.slice [],i64 0,.slice (s.out.map str),i64 (s.steps:Int)])),.mk ⟨11,[.int .i64 0,.slice none 0 0,.int .i64 0,.slice none 0 0,.int .i64 0],29,[.d (i64 s.fin),.d (.slice []),.d (i64 0),.d (.slice (s.out.map str)),.d (i64 (s.steps:Int))]⟩ (some 14),.st 13 ⟨11,[.int .i64 0,.slice none 0 0,.int .i64 0,.slice none 0 0,.int .i64 0],29,[.d (i64 s.fin),.d (.slice []),.d (i64 0),.d (.slice (s.out.map str)),.d (i64 (s.steps:Int))]⟩] (by kernel_rfl) (by kernel_rfl) (.inl rfl) ⟨⟨rfl,zAG rfl⟩,rfl,⟨rfl,zAS rfl⟩,rfl,⟨rfl,zAH rfl zAy⟩,rfl,⟨rfl,zAJ rfl zAz rfl rfl⟩,rfl,⟨rfl,zAG rfl⟩,rfl,⟨rfl,zAS rfl⟩,rfl,⟨rfl,zAH rfl zDd⟩,rfl,⟨rfl,zAJ rfl zCH rfl rfl⟩,rfl,⟨rfl,zAG rfl⟩,rfl,⟨rfl,zAS rfl⟩,rfl,⟨rfl,zAH rfl zBG⟩,rfl,⟨rfl,zAJ rfl zJo rfl rfl⟩,rfl,⟨rfl,zAf (cs:=[i64 s.fin,.slice [],i64 0,.slice (s.out.map str),i64 (s.steps:Int)]) zF8 zCb (PD_d rfl rfl (PD_d rfl rfl (PD_d rfl rfl zA6))) rfl⟩,rfl,⟨rfl,rfl,rfl,zCb,by kernel_rfl,rfl⟩,rfl,⟨⟨_,_,_,_,_,rfl,rfl,rfl,zBt,rfl⟩,rfl,rfl,rfl,rfl,rfl⟩,trivial⟩ ?_)|(refine zLc (id:=17) ?_)|apply en_n|apply zAE|apply zAA|apply zAD|apply w0|(refine zLr [] ?_ hmet hbv (hS y) (SArgs_all rfl) rfl rfl (by decide) rfl rfl rfl rfl rfl rfl ?_;exact rfl)|exact zC4 rfl rfl|exact zBU rfl rfl|exact zAS rfl|apply ay (hd:=rfl)|exact zAC rfl|exact zAB rfl|exact zCj rfl zA8|exact zAG rfl|(apply zAH;exact rfl;(with_reducible first|exact zAy|exact zDx|exact zEZ))|(apply zAJ;exact rfl;(with_reducible first|exact zAz|exact zAY);exact rfl;exact rfl)|(refine w0' ?_)|(apply zAl;exact rfl;exact rfl;exact rfl;(with_reducible first|exact zAz|exact zAY);exact rfl;exact rfl;exact rfl;exact rfl)|refine zAN rfl ?_|refine zAQ rfl ?_|apply zAI|apply zAO|apply eb_n
   all_goals first|omega|skip
   refine Stop.go ?_
   refine zGl 4 (mu:=true) rfl rfl ?_
   refine zKt 3 1 (d:=.slice (L'.map snD)) rfl rfl (zK7 rfl (qAK _).symm) ?_
   skip
   exact yR
 ·rw[if_neg hfin]
  by_cases hf2:s.fin=2
  ·rw[if_pos hf2]
   skip
   repeat' first|(refine zBH (id:=8) [.y (.ptr 1 0),.y (.ptr 1 0),.y (.ptr 1 (0+5)),.y (.d (i64 s.fin)),.y (.ptr 1 0),.y (.ptr 1 0),.y (.ptr 1 (0+4)),.y (.d (.slice (s.out.map str))),.y (.ptr 1 0),.y (.ptr 1 0),.y (.ptr 1 (0+3)),.y (.d (i64 (s.steps:Int))),.y (.d (.agg [i64 s.fin,.slice [],i64 0,.slice (s.out.map str),i64 (s.steps:Int)])),.mk ⟨11,[.int .i64 0,.slice none 0 0,.int .i64 0,.slice none 0 0,.int .i64 0],29,[.d (i64 s.fin),.d (.slice []),.d (i64 0),.d (.slice (s.out.map str)),.d (i64 (s.steps:Int))]⟩ (some 14),.st 13 ⟨11,[.int .i64 0,.slice none 0 0,.int .i64 0,.slice none 0 0,.int .i64 0],29,[.d (i64 s.fin),.d (.slice []),.d (i64 0),.d (.slice (s.out.map str)),.d (i64 (s.steps:Int))]⟩] (by kernel_rfl) (by kernel_rfl) (.inl rfl) ⟨⟨rfl,zAG rfl⟩,rfl,⟨rfl,zAS rfl⟩,rfl,⟨rfl,zAH rfl zAy⟩,rfl,⟨rfl,zAJ rfl zAz rfl rfl⟩,rfl,⟨rfl,zAG rfl⟩,rfl,⟨rfl,zAS rfl⟩,rfl,⟨rfl,zAH rfl zDd⟩,rfl,⟨rfl,zAJ rfl zCH rfl rfl⟩,rfl,⟨rfl,zAG rfl⟩,rfl,⟨rfl,zAS rfl⟩,rfl,⟨rfl,zAH rfl zBG⟩,rfl,⟨rfl,zAJ rfl zJo rfl rfl⟩,rfl,⟨rfl,zAf (cs:=[i64 s.fin,.slice [],i64 0,.slice (s.out.map str),i64 (s.steps:Int)]) zF8 zCb (PD_d rfl rfl (PD_d rfl rfl (PD_d rfl rfl zA6))) rfl⟩,rfl,⟨rfl,rfl,rfl,zCb,by kernel_rfl,rfl⟩,rfl,⟨⟨_,_,_,_,_,rfl,rfl,rfl,zBt,rfl⟩,rfl,rfl,rfl,rfl,rfl⟩,trivial⟩ ?_)|(refine zLc (id:=17) ?_)|apply en_n|apply zAE|apply zAA|apply zAD|apply w0|exact zBU rfl rfl|exact zBW rfl rfl|exact zAS rfl|apply ay (hd:=rfl)|exact zAB rfl|exact zAG rfl|(apply zAH;exact rfl;(with_reducible first|exact zAy|exact zHs|exact zIf))|(apply zAJ;exact rfl;(with_reducible first|exact zAz|exact zCn);exact rfl;exact rfl)|(refine w0' ?_)|(apply zAl;exact rfl;exact rfl;exact rfl;(with_reducible exact zCn);exact rfl;exact rfl;exact rfl;exact rfl)|refine zAN rfl ?_|refine zAQ rfl ?_|apply zAI|apply eb_n
   all_goals first|omega|skip
   refine Stop.go ?_
   skip
   exact yR
  ·rw[if_neg hf2]
   skip
   repeat' first|(refine zBH (id:=8) [.y (.ptr 1 0),.y (.ptr 1 0),.y (.ptr 1 (0+5)),.y (.d (i64 s.fin)),.y (.ptr 1 0),.y (.ptr 1 0),.y (.ptr 1 (0+4)),.y (.d (.slice (s.out.map str))),.y (.ptr 1 0),.y (.ptr 1 0),.y (.ptr 1 (0+3)),.y (.d (i64 (s.steps:Int))),.y (.d (.agg [i64 s.fin,.slice [],i64 0,.slice (s.out.map str),i64 (s.steps:Int)])),.mk ⟨11,[.int .i64 0,.slice none 0 0,.int .i64 0,.slice none 0 0,.int .i64 0],29,[.d (i64 s.fin),.d (.slice []),.d (i64 0),.d (.slice (s.out.map str)),.d (i64 (s.steps:Int))]⟩ (some 14),.st 13 ⟨11,[.int .i64 0,.slice none 0 0,.int .i64 0,.slice none 0 0,.int .i64 0],29,[.d (i64 s.fin),.d (.slice []),.d (i64 0),.d (.slice (s.out.map str)),.d (i64 (s.steps:Int))]⟩] (by kernel_rfl) (by kernel_rfl) (.inl rfl) ⟨⟨rfl,zAG rfl⟩,rfl,⟨rfl,zAS rfl⟩,rfl,⟨rfl,zAH rfl zAy⟩,rfl,⟨rfl,zAJ rfl zAz rfl rfl⟩,rfl,⟨rfl,zAG rfl⟩,rfl,⟨rfl,zAS rfl⟩,rfl,⟨rfl,zAH rfl zDd⟩,rfl,⟨rfl,zAJ rfl zCH rfl rfl⟩,rfl,⟨rfl,zAG rfl⟩,rfl,⟨rfl,zAS rfl⟩,rfl,⟨rfl,zAH rfl zBG⟩,rfl,⟨rfl,zAJ rfl zJo rfl rfl⟩,rfl,⟨rfl,zAf (cs:=[i64 s.fin,.slice [],i64 0,.slice (s.out.map str),i64 (s.steps:Int)]) zF8 zCb (PD_d rfl rfl (PD_d rfl rfl (PD_d rfl rfl zA6))) rfl⟩,rfl,⟨rfl,rfl,rfl,zCb,by kernel_rfl,rfl⟩,rfl,⟨⟨_,_,_,_,_,rfl,rfl,rfl,zBt,rfl⟩,rfl,rfl,rfl,rfl,rfl⟩,trivial⟩ ?_)|(refine zLc (id:=17) ?_)|apply en_n|apply zAE|apply zAA|apply zAD|apply w0|exact zBW rfl rfl|exact zAS rfl|apply ay (hd:=rfl)|exact zAB rfl|exact zAG rfl|exact zAH rfl zAy|exact zAJ rfl zAz rfl rfl|refine zAQ rfl ?_|apply zAI|apply zAO|apply eb_n
   all_goals first|omega|skip
   refine Stop.go ?_
   skip
   exact yR
