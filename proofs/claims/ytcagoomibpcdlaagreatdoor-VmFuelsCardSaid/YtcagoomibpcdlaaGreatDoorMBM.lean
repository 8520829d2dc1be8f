/- Texts of this claim, merged: VmDF. -/
import Derived.Test.YtcagoomibpcdlaaGreatDoorMBD
namespace Go.Proofs.YtcagoomibpcdlaaGreatDoor
open Go.Sx Go.Vm
attribute [local irreducible] zAQ Program.underlying Ylds zBD alex zCA zBi awp zAp zCI zCH zAW zBw zA5 zD4 zB0 zBp zBF zBv zB9 zCE zES zBn zBm zBs JFit
set_option maxHeartbeats 4000000 in
theorem do_7(m:Img)(c c':CK){k a b:Int}{s:CS}(hd:DoAt m c k ⟨7,a,b⟩ s)(hS:zD3 m c c' s true (flo s) (2) (1) (true) (.d (zCL [k+1]))): DoTo m c c' k:=by
 refine zC4 Tryz.func74 rfl Tryz.ntmps74 Tryz.results74 rfl ?_
 intro wb St0 X fx
 refine zCn m c hd wb St0 X fx _ ?_
 obtain⟨hk0,hat0,hst0,hbig,hlen,hh,htr,ha,hb,_⟩:=hd
 have hr0:=(List.getElem?_eq_some_iff.1 hst0).1
 have hk1:k<(c.at_.length:Int):=by omega
 dsimp only at ha hb
 clear hat0 hst0
 conv=>arg 2;whnf
 repeat' first|apply en_n|apply zAK|apply zAA|apply zAF|apply w0|(refine zCG zBA zBK zCM rfl rfl (zAa rfl zAR) rfl)|(refine zCl [0,1,2,3,6,7,4] [4,5,6] rfl rfl zAq (hS) rfl ?_ rfl rfl (by decide) rfl rfl rfl rfl rfl rfl ?_;(repeat (refine zAB rfl ?_));exact zAE)|(apply zAn;exact rfl;exact rfl;first|assumption|omega)|(apply zAs;exact rfl;exact rfl;first|assumption|omega)|apply ay (hd:=rfl)|exact zAJ rfl|exact zAD rfl|(apply zBL;exact rfl;exact rfl)|exact zAi rfl|(apply zAL;exact rfl)|(apply zAM;exact rfl)|apply zAO|apply eb_n
 all_goals first|omega|skip
 all_goals exact zBN rfl
set_option maxHeartbeats 4000000 in
theorem do_5(m:Img)(c c':CK){k a b:Int}{s:CS}(hd:DoAt m c k ⟨5,a,b⟩ s)(hS:zD3 m c c' s true (flo s) (a) (0) (true) (.d (zCL [k+1]))): DoTo m c c' k:=by
 refine zC4 Tryz.func74 rfl Tryz.ntmps74 Tryz.results74 rfl ?_
 intro wb St0 X fx
 refine zCn m c hd wb St0 X fx _ ?_
 obtain⟨hk0,hat0,hst0,hbig,hlen,hh,htr,ha,hb,_⟩:=hd
 have hr0:=(List.getElem?_eq_some_iff.1 hst0).1
 have hk1:k<(c.at_.length:Int):=by omega
 dsimp only at ha hb
 clear hat0 hst0
 conv=>arg 2;whnf
 repeat' first|apply en_n|apply zAK|apply zAA|apply zAF|apply w0|(refine zCG zBA zBK zCM rfl rfl (zAa rfl zAR) rfl)|(refine zCl [0,1,2,3,6,7,4] [4,5,6] rfl rfl zAq (hS) rfl ?_ rfl rfl (by decide) rfl rfl rfl rfl rfl rfl ?_;(repeat (refine zAB rfl ?_));exact zAE)|(apply zAG;exact rfl;(first|with_reducible exact zAS|with_reducible exact zAx|with_reducible exact zAw|with_reducible exact zA0|with_reducible exact zAf|with_reducible exact zA1|with_reducible exact zAg);exact rfl;exact rfl)|(apply zAn;exact rfl;exact rfl;first|assumption|omega)|(apply zAs;exact rfl;exact rfl;first|assumption|omega)|apply ay (hd:=rfl)|exact zAJ rfl|exact zAD rfl|(apply zBL;exact rfl;exact rfl)|exact zAi rfl|(apply zAC;exact rfl;(with_reducible exact zAu))|(apply zAL;exact rfl)|(apply zAM;exact rfl)|apply zAO|apply eb_n
 all_goals first|omega|skip
 all_goals exact zBN rfl
set_option maxHeartbeats 4000000 in
theorem do_6(m:Img)(c c':CK){k a b:Int}{s:CS}(hd:DoAt m c k ⟨6,a,b⟩ s)(hS:zD3 m c c' s true (flo s) (a+1) (1) (true) (.d (zCL [k+1]))): DoTo m c c' k:=by
 refine zC4 Tryz.func74 rfl Tryz.ntmps74 Tryz.results74 rfl ?_
 intro wb St0 X fx
 refine zCn m c hd wb St0 X fx _ ?_
 obtain⟨hk0,hat0,hst0,hbig,hlen,hh,htr,ha,hb,_⟩:=hd
 have hr0:=(List.getElem?_eq_some_iff.1 hst0).1
 have hk1:k<(c.at_.length:Int):=by omega
 dsimp only at ha hb
 clear hat0 hst0
 conv=>arg 2;whnf
 repeat' first|apply en_n|apply zAK|apply zAA|apply zAF|apply w0|(refine zCG zBA zBK zCM rfl rfl (zAa rfl zAR) rfl)|(refine zCl [0,1,2,3,6,7,4] [4,5,6] rfl rfl zAq (hS) rfl ?_ rfl rfl (by decide) rfl rfl rfl rfl rfl rfl ?_;(repeat (refine zAB rfl ?_));exact zAE)|(apply zAG;exact rfl;(first|with_reducible exact zAS|with_reducible exact zAx|with_reducible exact zAw|with_reducible exact zA0|with_reducible exact zAf|with_reducible exact zA1|with_reducible exact zAg);exact rfl;exact rfl)|(apply zAn;exact rfl;exact rfl;first|assumption|omega)|(apply zAs;exact rfl;exact rfl;first|assumption|omega)|apply ay (hd:=rfl)|exact zAJ rfl|exact zAD rfl|(apply zBL;exact rfl;exact rfl)|exact zAi rfl|(apply zAC;exact rfl;(with_reducible exact zAu))|(apply zAL;exact rfl)|(apply zAM;exact rfl)|apply zAO|apply eb_n
 all_goals first|omega|skip
 all_goals exact zBN rfl
set_option maxHeartbeats 4000000 in
theorem zZL(m:Img)(c c':CK){k a b:Int}{s:CS}(hd:DoAt m c k ⟨13,a,b⟩ s)(hS:zD3 m c c' s true (flo s) (1) (0) (true) (.nil)): DoTo m c c' k:=by
 refine zC4 Tryz.func74 rfl Tryz.ntmps74 Tryz.results74 rfl ?_
 intro wb St0 X fx
 refine zCn m c hd wb St0 X fx _ ?_
 obtain⟨hk0,hat0,hst0,hbig,hlen,hh,htr,ha,hb,_⟩:=hd
 have hr0:=(List.getElem?_eq_some_iff.1 hst0).1
 have hk1:k<(c.at_.length:Int):=by omega
 dsimp only at ha hb
 clear hat0 hst0
 conv=>arg 2;whnf
 repeat' first|apply en_n|apply zAK|apply zAA|apply zAF|apply w0|(refine zCl [0,1,2,3,6,7,4] [4,5,6] rfl rfl zAq (hS) rfl ?_ rfl rfl (by decide) rfl rfl rfl rfl rfl rfl ?_;(repeat (refine zAB rfl ?_));exact zAE)|(apply zAn;exact rfl;exact rfl;first|assumption|omega)|(apply zAs;exact rfl;exact rfl;first|assumption|omega)|apply ay (hd:=rfl)|exact zAD rfl|exact zAi rfl|(apply zAL;exact rfl)|(apply zAM;exact rfl)|apply zAO|apply eb_n
 all_goals first|omega|skip
 all_goals exact zBN rfl
set_option maxHeartbeats 4000000 in
theorem zZJ(m:Img)(c c':CK){k a b:Int}{s:CS}(hd:DoAt m c k ⟨15,a,b⟩ s)(hS:zD3 m c c' s true (flo s) (0) (0) (true) (.d (zCL [a]))): DoTo m c c' k:=by
 refine zC4 Tryz.func74 rfl Tryz.ntmps74 Tryz.results74 rfl ?_
 intro wb St0 X fx
 refine zCn m c hd wb St0 X fx _ ?_
 obtain⟨hk0,hat0,hst0,hbig,hlen,hh,htr,ha,hb,_⟩:=hd
 have hr0:=(List.getElem?_eq_some_iff.1 hst0).1
 have hk1:k<(c.at_.length:Int):=by omega
 dsimp only at ha hb
 clear hat0 hst0
 conv=>arg 2;whnf
 repeat' first|apply en_n|apply zAK|apply zAA|apply zAF|apply w0|(refine zCG zBA zBK zCM rfl rfl (zAa rfl zAR) rfl)|(refine zCl [0,1,2,3,6,7,4] [4,5,6] rfl rfl zAq (hS) rfl ?_ rfl rfl (by decide) rfl rfl rfl rfl rfl rfl ?_;(repeat (refine zAB rfl ?_));exact zAE)|(apply zAG;exact rfl;(first|with_reducible exact zAS|with_reducible exact zAx|with_reducible exact zAw|with_reducible exact zA0|with_reducible exact zAf|with_reducible exact zA1|with_reducible exact zAg);exact rfl;exact rfl)|(apply zAn;exact rfl;exact rfl;first|assumption|omega)|(apply zAs;exact rfl;exact rfl;first|assumption|omega)|apply ay (hd:=rfl)|exact zAD rfl|exact zAi rfl|(apply zAC;exact rfl;(with_reducible exact zAu))|(apply zAL;exact rfl)|(apply zAM;exact rfl)|apply zAO|apply eb_n
 all_goals first|omega|skip
 all_goals exact zBN rfl
set_option maxHeartbeats 4000000 in
theorem zZI(m:Img)(c c':CK){k a b:Int}{s:CS}(hd:DoAt m c k ⟨16,a,b⟩ s)(hS:zD3 m c c' s true (flo s) (1) (0) (true) (.d (zCL [a,k+1]))): DoTo m c c' k:=by
 refine zC4 Tryz.func74 rfl Tryz.ntmps74 Tryz.results74 rfl ?_
 intro wb St0 X fx
 refine zCn m c hd wb St0 X fx _ ?_
 obtain⟨hk0,hat0,hst0,hbig,hlen,hh,htr,ha,hb,_⟩:=hd
 have hr0:=(List.getElem?_eq_some_iff.1 hst0).1
 have hk1:k<(c.at_.length:Int):=by omega
 dsimp only at ha hb
 clear hat0 hst0
 conv=>arg 2;whnf
 repeat' first|apply en_n|apply zAK|apply zAA|apply zAF|apply w0|(refine zGK zBA zBK zCM rfl rfl (zAa rfl (zAa rfl zAR)) rfl)|(refine zCl [0,1,2,3,6,7,4] [4,5,6] rfl rfl zAq (hS) rfl ?_ rfl rfl (by decide) rfl rfl rfl rfl rfl rfl ?_;(repeat (refine zAB rfl ?_));exact zAE)|(apply zAG;exact rfl;(first|with_reducible exact zAS|with_reducible exact zAx|with_reducible exact zAw|with_reducible exact zA0|with_reducible exact zAf|with_reducible exact zA1|with_reducible exact zAg);exact rfl;exact rfl)|(apply zAn;exact rfl;exact rfl;first|assumption|omega)|(apply zAs;exact rfl;exact rfl;first|assumption|omega)|apply ay (hd:=rfl)|exact zAJ rfl|exact zAD rfl|(apply zBL;exact rfl;exact rfl)|exact zAi rfl|(apply zAC;exact rfl;(with_reducible exact zAu))|(apply zAL;exact rfl)|(apply zAM;exact rfl)|apply zAO|apply eb_n
 all_goals first|omega|skip
 all_goals exact zBN rfl
set_option maxHeartbeats 4000000 in
theorem do_0(m:Img)(c c':CK){k a b:Int}{s:CS}(hd:DoAt m c k ⟨0,a,b⟩ s)(hS:zD3 m c c' s true (flo s) (1) (0) (decide (s.of = -1)&&decide ((s.tries.length:Int)=0)) (.nil)): DoTo m c c' k:=by
 refine zC4 Tryz.func74 rfl Tryz.ntmps74 Tryz.results74 rfl ?_
 intro wb St0 X fx
 refine zCn m c hd wb St0 X fx _ ?_
 obtain⟨hk0,hat0,hst0,hbig,hlen,hh,htr,ha,hb,_⟩:=hd
 have hr0:=(List.getElem?_eq_some_iff.1 hst0).1
 have hk1:k<(c.at_.length:Int):=by omega
 dsimp only at ha hb
 clear hat0 hst0
 conv=>arg 2;whnf
 by_cases q0:s.of = -1
 ·skip
  by_cases q1:(s.tries.length:Int)=0
  ·skip
   rw[show (decide (s.of = -1)&&decide ((s.tries.length:Int)=0))=true from by first|(rw[decide_eq_true q0,decide_eq_true q1];done)|(rw[decide_eq_true q0,decide_eq_true q1];rfl)]at hS
   repeat' first|apply en_n|apply zAK|apply zAA|apply zAF|apply w0|(refine zCl [0,1,2,3,6,7,4] [4,5,6] rfl rfl zAq (hS) rfl ?_ rfl rfl (by decide) rfl rfl rfl rfl rfl rfl ?_;(repeat (refine zAB rfl ?_));exact zAE)|(apply zAG;exact rfl;(first|with_reducible exact zAS|with_reducible exact zAx|with_reducible exact zAw|with_reducible exact zA0|with_reducible exact zAf|with_reducible exact zA1|with_reducible exact zAg);exact rfl;exact rfl)|(apply k1u (hd:=rfl);exact rfl;exact rfl)|(apply zAn;exact rfl;exact rfl;first|assumption|omega)|apply ay (hd:=rfl)|exact zAJ rfl|exact zAD rfl|(apply zBZ;exact rfl;(with_reducible exact zCY))|exact zBd rfl|exact zAj rfl rfl|exact zAc rfl rfl|exact zAi rfl|(apply zAC;exact rfl;(with_reducible exact zBf))|(apply w1;exact rfl;exact rfl)|(apply gN;exact rfl;exact rfl;(intro hb);rotate_left;(intro hb);rotate_right)|(apply zAL;exact rfl)|apply zAO|apply eb_n
   all_goals first|omega|skip
   all_goals exact zBN rfl
  ·skip
   rw[show (decide (s.of = -1)&&decide ((s.tries.length:Int)=0))=false from by first|(rw[decide_eq_true q0,decide_eq_false q1];done)|(rw[decide_eq_true q0,decide_eq_false q1];rfl)]at hS
   repeat' first|apply en_n|apply zAK|apply zAA|apply zAF|apply w0|(refine zCl [0,1,2,3,6,7,4] [4,5,6] rfl rfl zAq (hS) rfl ?_ rfl rfl (by decide) rfl rfl rfl rfl rfl rfl ?_;(repeat (refine zAB rfl ?_));exact zAE)|(apply zAG;exact rfl;(first|with_reducible exact zAS|with_reducible exact zAx|with_reducible exact zAw|with_reducible exact zA0|with_reducible exact zAf|with_reducible exact zA1|with_reducible exact zAg);exact rfl;exact rfl)|(apply k1u (hd:=rfl);exact rfl;exact rfl)|(apply zAn;exact rfl;exact rfl;first|assumption|omega)|(apply zAs;exact rfl;exact rfl;first|assumption|omega)|apply ay (hd:=rfl)|exact zAJ rfl|exact zAD rfl|(apply zBZ;exact rfl;(with_reducible exact zCY))|exact zBd rfl|exact zAj rfl rfl|exact zAc rfl rfl|exact zAi rfl|(apply zAC;exact rfl;(with_reducible exact zBf))|(apply w1;exact rfl;exact rfl)|(apply gN;exact rfl;exact rfl;(intro hb);rotate_left;(intro hb);rotate_right)|(apply zAL;exact rfl)|apply zAO|apply eb_n
   all_goals first|omega|skip
   all_goals exact zBN rfl
 ·skip
  by_cases q1:(s.tries.length:Int)=0
  ·skip
   rw[show (decide (s.of = -1)&&decide ((s.tries.length:Int)=0))=false from by first|(rw[decide_eq_false q0,decide_eq_true q1];done)|(rw[decide_eq_false q0,decide_eq_true q1];rfl)]at hS
   repeat' first|apply en_n|apply zAK|apply zAA|apply zAF|apply w0|(refine zCl [0,1,2,3,6,7,4] [4,5,6] rfl rfl zAq (hS) rfl ?_ rfl rfl (by decide) rfl rfl rfl rfl rfl rfl ?_;(repeat (refine zAB rfl ?_));exact zAE)|(apply zAG;exact rfl;(first|with_reducible exact zAS|with_reducible exact zAx|with_reducible exact zAw|with_reducible exact zA0|with_reducible exact zAf|with_reducible exact zA1|with_reducible exact zAg);exact rfl;exact rfl)|(apply k1u (hd:=rfl);exact rfl;exact rfl)|(apply zAn;exact rfl;exact rfl;first|assumption|omega)|apply ay (hd:=rfl)|exact zAJ rfl|exact zAD rfl|(apply zBZ;exact rfl;(with_reducible exact zCY))|exact zBd rfl|exact zAj rfl rfl|exact zAc rfl rfl|exact zAi rfl|(apply zAC;exact rfl;(with_reducible exact zBf))|(apply w1;exact rfl;exact rfl)|(apply gN;exact rfl;exact rfl;(intro hb);rotate_left;(intro hb);rotate_right)|(apply zAL;exact rfl)|apply zAO|apply eb_n
   all_goals first|omega|skip
   all_goals exact zBN rfl
  ·skip
   rw[show (decide (s.of = -1)&&decide ((s.tries.length:Int)=0))=false from by first|(rw[decide_eq_false q0,decide_eq_false q1];done)|(rw[decide_eq_false q0,decide_eq_false q1];rfl)]at hS
   repeat' first|apply en_n|apply zAK|apply zAA|apply zAF|apply w0|(refine zCl [0,1,2,3,6,7,4] [4,5,6] rfl rfl zAq (hS) rfl ?_ rfl rfl (by decide) rfl rfl rfl rfl rfl rfl ?_;(repeat (refine zAB rfl ?_));exact zAE)|(apply zAG;exact rfl;(first|with_reducible exact zAS|with_reducible exact zAx|with_reducible exact zAw|with_reducible exact zA0|with_reducible exact zAf|with_reducible exact zA1|with_reducible exact zAg);exact rfl;exact rfl)|(apply k1u (hd:=rfl);exact rfl;exact rfl)|(apply zAn;exact rfl;exact rfl;first|assumption|omega)|apply ay (hd:=rfl)|exact zAJ rfl|exact zAD rfl|(apply zBZ;exact rfl;(with_reducible exact zCY))|exact zBd rfl|exact zAj rfl rfl|exact zAc rfl rfl|exact zAi rfl|(apply zAC;exact rfl;(with_reducible exact zBf))|(apply w1;exact rfl;exact rfl)|(apply gN;exact rfl;exact rfl;(intro hb);rotate_left;(intro hb);rotate_right)|(apply zAL;exact rfl)|apply zAO|apply eb_n
   all_goals first|omega|skip
   all_goals exact zBN rfl
set_option maxHeartbeats 4000000 in
theorem do_2(m:Img)(c c':CK){k a b:Int}{s:CS}(hd:DoAt m c k ⟨2,a,b⟩ s)(hS:zD3 m c c' s true (flo s) (0) (1) (decide (a<s.height)) (.d (zCL [k+1]))): DoTo m c c' k:=by
 refine zC4 Tryz.func74 rfl Tryz.ntmps74 Tryz.results74 rfl ?_
 intro wb St0 X fx
 refine zCn m c hd wb St0 X fx _ ?_
 obtain⟨hk0,hat0,hst0,hbig,hlen,hh,htr,ha,hb,_⟩:=hd
 have hr0:=(List.getElem?_eq_some_iff.1 hst0).1
 have hk1:k<(c.at_.length:Int):=by omega
 dsimp only at ha hb
 clear hat0 hst0
 conv=>arg 2;whnf
 by_cases q0:a<s.height
 ·skip
  rw[show (decide (a<s.height))=true from by first|(rw[decide_eq_true q0];done)|(rw[decide_eq_true q0];rfl)]at hS
  repeat' first|apply en_n|apply zAK|apply zAA|apply zAF|apply w0|(refine zCG zBA zBK zCM rfl rfl (zAa rfl zAR) rfl)|(refine zCl [0,1,2,3,6,7,4] [4,5,6] rfl rfl zAq (hS) rfl ?_ rfl rfl (by decide) rfl rfl rfl rfl rfl rfl ?_;(repeat (refine zAB rfl ?_));exact zAE)|(apply zAG;exact rfl;(first|with_reducible exact zAS|with_reducible exact zAx|with_reducible exact zAw|with_reducible exact zA0|with_reducible exact zAf|with_reducible exact zA1|with_reducible exact zAg);exact rfl;exact rfl)|(apply zC9;exact rfl;exact rfl;first|assumption|omega)|(apply zAn;exact rfl;exact rfl;first|assumption|omega)|(apply zAs;exact rfl;exact rfl;first|assumption|omega)|apply ay (hd:=rfl)|exact zAJ rfl|exact zAD rfl|(apply zBL;exact rfl;exact rfl)|exact zAi rfl|(apply zAC;exact rfl;(with_reducible first|exact zAu|exact zBy))|(apply zAL;exact rfl)|(apply zAM;exact rfl)|apply zAO|apply eb_n
  all_goals first|omega|skip
  all_goals exact zBN rfl
 ·skip
  rw[show (decide (a<s.height))=false from by first|(rw[decide_eq_false q0];done)|(rw[decide_eq_false q0];rfl)]at hS
  repeat' first|apply en_n|apply zAK|apply zAA|apply zAF|apply w0|(refine zCG zBA zBK zCM rfl rfl (zAa rfl zAR) rfl)|(refine zCl [0,1,2,3,6,7,4] [4,5,6] rfl rfl zAq (hS) rfl ?_ rfl rfl (by decide) rfl rfl rfl rfl rfl rfl ?_;(repeat (refine zAB rfl ?_));exact zAE)|(apply zAG;exact rfl;(first|with_reducible exact zAS|with_reducible exact zAx|with_reducible exact zAw|with_reducible exact zA0|with_reducible exact zAf|with_reducible exact zA1|with_reducible exact zAg);exact rfl;exact rfl)|(apply zCk;exact rfl;exact rfl;first|assumption|omega)|(apply zAn;exact rfl;exact rfl;first|assumption|omega)|(apply zAs;exact rfl;exact rfl;first|assumption|omega)|apply ay (hd:=rfl)|exact zAJ rfl|exact zAD rfl|(apply zBL;exact rfl;exact rfl)|exact zAi rfl|(apply zAC;exact rfl;(with_reducible first|exact zAu|exact zBy))|(apply zAL;exact rfl)|(apply zAM;exact rfl)|apply zAO|apply eb_n
  all_goals first|omega|skip
  all_goals exact zBN rfl
set_option maxHeartbeats 4000000 in
theorem do_4(m:Img)(c c':CK){k a b:Int}{s:CS}(hd:DoAt m c k ⟨4,a,b⟩ s)(hS:zD3 m c c' s true (flo s) (0) (1) (decide (s.of≠-1)) (.d (zCL [k+1]))): DoTo m c c' k:=by
 refine zC4 Tryz.func74 rfl Tryz.ntmps74 Tryz.results74 rfl ?_
 intro wb St0 X fx
 refine zCn m c hd wb St0 X fx _ ?_
 obtain⟨hk0,hat0,hst0,hbig,hlen,hh,htr,ha,hb,_⟩:=hd
 have hr0:=(List.getElem?_eq_some_iff.1 hst0).1
 have hk1:k<(c.at_.length:Int):=by omega
 dsimp only at ha hb
 clear hat0 hst0
 conv=>arg 2;whnf
 repeat' first|apply en_n|apply zAK|apply zAA|apply zAF|apply w0|(refine zCG zBA zBK zCM rfl rfl (zAa rfl zAR) rfl)|(refine zCl [0,1,2,3,6,7,4] [4,5,6] rfl rfl zAq (hS) rfl ?_ rfl rfl (by decide) rfl rfl rfl rfl rfl rfl ?_;(repeat (refine zAB rfl ?_));exact zAE)|(apply zAn;exact rfl;exact rfl;first|assumption|omega)|(apply zAs;exact rfl;exact rfl;first|assumption|omega)|apply ay (hd:=rfl)|exact zAJ rfl|exact zAD rfl|(apply zBL;exact rfl;exact rfl)|exact zAi rfl|(apply zAL;exact rfl)|(apply zAM;exact rfl)|apply zAO|apply eb_n
 all_goals first|omega|skip
 all_goals exact zBN rfl
set_option maxHeartbeats 4000000 in
theorem do_8(m:Img)(c c':CK){k a b:Int}{s:CS}(hd:DoAt m c k ⟨8,a,b⟩ s)(hS:zD3 m c c' s true (flo s) (2) (0) (!decide (s.of = -1)&&decide ((s.tries.length:Int)=0)) (.nil)): DoTo m c c' k:=by
 refine zC4 Tryz.func74 rfl Tryz.ntmps74 Tryz.results74 rfl ?_
 intro wb St0 X fx
 refine zCn m c hd wb St0 X fx _ ?_
 obtain⟨hk0,hat0,hst0,hbig,hlen,hh,htr,ha,hb,_⟩:=hd
 have hr0:=(List.getElem?_eq_some_iff.1 hst0).1
 have hk1:k<(c.at_.length:Int):=by omega
 dsimp only at ha hb
 clear hat0 hst0
 conv=>arg 2;whnf
 by_cases q0:s.of = -1
 ·skip
  by_cases q1:(s.tries.length:Int)=0
  ·skip
   rw[show (!decide (s.of = -1)&&decide ((s.tries.length:Int)=0))=false from by first|(rw[decide_eq_true q0,decide_eq_true q1];done)|(rw[decide_eq_true q0,decide_eq_true q1];rfl)]at hS
   repeat' first|apply en_n|apply zAK|apply zAA|apply zAF|apply w0|(refine zCl [0,1,2,3,6,7,4] [4,5,6] rfl rfl zAq (hS) rfl ?_ rfl rfl (by decide) rfl rfl rfl rfl rfl rfl ?_;(repeat (refine zAB rfl ?_));exact zAE)|(apply zAG;exact rfl;(first|with_reducible exact zAS|with_reducible exact zAx|with_reducible exact zAw|with_reducible exact zA0|with_reducible exact zAf|with_reducible exact zA1|with_reducible exact zAg);exact rfl;exact rfl)|(apply k1u (hd:=rfl);exact rfl;exact rfl)|(apply zAn;exact rfl;exact rfl;first|assumption|omega)|(apply zAs;exact rfl;exact rfl;first|assumption|omega)|apply ay (hd:=rfl)|exact zAJ rfl|exact zAD rfl|(apply zBZ;exact rfl;(with_reducible exact zCY))|exact zAj rfl rfl|exact zAc rfl rfl|exact zAi rfl|(apply zAC;exact rfl;(with_reducible exact zBf))|(apply w1;exact rfl;exact rfl)|(apply gD;exact rfl;exact rfl;(intro hb);rotate_left;(intro hb);rotate_right)|(apply zAL;exact rfl)|(apply zAM;exact rfl)|apply zAO|apply eb_n
   all_goals first|omega|skip
   all_goals exact zBN rfl
  ·skip
   rw[show (!decide (s.of = -1)&&decide ((s.tries.length:Int)=0))=false from by first|(rw[decide_eq_true q0,decide_eq_false q1];done)|(rw[decide_eq_true q0,decide_eq_false q1];rfl)]at hS
   repeat' first|apply en_n|apply zAK|apply zAA|apply zAF|apply w0|(refine zCl [0,1,2,3,6,7,4] [4,5,6] rfl rfl zAq (hS) rfl ?_ rfl rfl (by decide) rfl rfl rfl rfl rfl rfl ?_;(repeat (refine zAB rfl ?_));exact zAE)|(apply zAG;exact rfl;(first|with_reducible exact zAS|with_reducible exact zAx|with_reducible exact zAw|with_reducible exact zA0|with_reducible exact zAf|with_reducible exact zA1|with_reducible exact zAg);exact rfl;exact rfl)|(apply k1u (hd:=rfl);exact rfl;exact rfl)|(apply zAn;exact rfl;exact rfl;first|assumption|omega)|(apply zAs;exact rfl;exact rfl;first|assumption|omega)|apply ay (hd:=rfl)|exact zAJ rfl|exact zAD rfl|(apply zBZ;exact rfl;(with_reducible exact zCY))|exact zAj rfl rfl|exact zAc rfl rfl|exact zAi rfl|(apply zAC;exact rfl;(with_reducible exact zBf))|(apply w1;exact rfl;exact rfl)|(apply gD;exact rfl;exact rfl;(intro hb);rotate_left;(intro hb);rotate_right)|(apply zAL;exact rfl)|(apply zAM;exact rfl)|apply zAO|apply eb_n
   all_goals first|omega|skip
   all_goals exact zBN rfl
 ·skip
  by_cases q1:(s.tries.length:Int)=0
  ·skip
   rw[show (!decide (s.of = -1)&&decide ((s.tries.length:Int)=0))=true from by first|(rw[decide_eq_false q0,decide_eq_true q1];done)|(rw[decide_eq_false q0,decide_eq_true q1];rfl)]at hS
   repeat' first|apply en_n|apply zAK|apply zAA|apply zAF|apply w0|(refine zCl [0,1,2,3,6,7,4] [4,5,6] rfl rfl zAq (hS) rfl ?_ rfl rfl (by decide) rfl rfl rfl rfl rfl rfl ?_;(repeat (refine zAB rfl ?_));exact zAE)|(apply zAG;exact rfl;(first|with_reducible exact zAS|with_reducible exact zAx|with_reducible exact zAw|with_reducible exact zA0|with_reducible exact zAf|with_reducible exact zA1|with_reducible exact zAg);exact rfl;exact rfl)|(apply k1u (hd:=rfl);exact rfl;exact rfl)|(apply zAn;exact rfl;exact rfl;first|assumption|omega)|(apply zAs;exact rfl;exact rfl;first|assumption|omega)|apply ay (hd:=rfl)|exact zAJ rfl|exact zAD rfl|(apply zBZ;exact rfl;(with_reducible exact zCY))|exact zAj rfl rfl|exact zAc rfl rfl|exact zAi rfl|(apply zAC;exact rfl;(with_reducible exact zBf))|(apply w1;exact rfl;exact rfl)|(apply gD;exact rfl;exact rfl;(intro hb);rotate_left;(intro hb);rotate_right)|(apply zAL;exact rfl)|(apply zAM;exact rfl)|apply zAO|apply eb_n
   all_goals first|omega|skip
   all_goals exact zBN rfl
  ·skip
   rw[show (!decide (s.of = -1)&&decide ((s.tries.length:Int)=0))=false from by first|(rw[decide_eq_false q0,decide_eq_false q1];done)|(rw[decide_eq_false q0,decide_eq_false q1];rfl)]at hS
   repeat' first|apply en_n|apply zAK|apply zAA|apply zAF|apply w0|(refine zCl [0,1,2,3,6,7,4] [4,5,6] rfl rfl zAq (hS) rfl ?_ rfl rfl (by decide) rfl rfl rfl rfl rfl rfl ?_;(repeat (refine zAB rfl ?_));exact zAE)|(apply zAG;exact rfl;(first|with_reducible exact zAS|with_reducible exact zAx|with_reducible exact zAw|with_reducible exact zA0|with_reducible exact zAf|with_reducible exact zA1|with_reducible exact zAg);exact rfl;exact rfl)|(apply k1u (hd:=rfl);exact rfl;exact rfl)|(apply zAn;exact rfl;exact rfl;first|assumption|omega)|(apply zAs;exact rfl;exact rfl;first|assumption|omega)|apply ay (hd:=rfl)|exact zAJ rfl|exact zAD rfl|(apply zBZ;exact rfl;(with_reducible exact zCY))|exact zAj rfl rfl|exact zAc rfl rfl|exact zAi rfl|(apply zAC;exact rfl;(with_reducible exact zBf))|(apply w1;exact rfl;exact rfl)|(apply gD;exact rfl;exact rfl;(intro hb);rotate_left;(intro hb);rotate_right)|(apply zAL;exact rfl)|(apply zAM;exact rfl)|apply zAO|apply eb_n
   all_goals first|omega|skip
   all_goals exact zBN rfl
set_option maxHeartbeats 4000000 in
theorem do_9(m:Img)(c c':CK){k a b:Int}{s:CS}(hd:DoAt m c k ⟨9,a,b⟩ s)(hS:zD3 m c c' s true (flo s) (1) (0) (!decide (s.of = -1)&&decide ((s.tries.length:Int)=0)) (.nil)): DoTo m c c' k:=by
 refine zC4 Tryz.func74 rfl Tryz.ntmps74 Tryz.results74 rfl ?_
 intro wb St0 X fx
 refine zCn m c hd wb St0 X fx _ ?_
 obtain⟨hk0,hat0,hst0,hbig,hlen,hh,htr,ha,hb,_⟩:=hd
 have hr0:=(List.getElem?_eq_some_iff.1 hst0).1
 have hk1:k<(c.at_.length:Int):=by omega
 dsimp only at ha hb
 clear hat0 hst0
 conv=>arg 2;whnf
 by_cases q0:s.of = -1
 ·skip
  by_cases q1:(s.tries.length:Int)=0
  ·skip
   rw[show (!decide (s.of = -1)&&decide ((s.tries.length:Int)=0))=false from by first|(rw[decide_eq_true q0,decide_eq_true q1];done)|(rw[decide_eq_true q0,decide_eq_true q1];rfl)]at hS
   repeat' first|apply en_n|apply zAK|apply zAA|apply zAF|apply w0|(refine zCl [0,1,2,3,6,7,4] [4,5,6] rfl rfl zAq (hS) rfl ?_ rfl rfl (by decide) rfl rfl rfl rfl rfl rfl ?_;(repeat (refine zAB rfl ?_));exact zAE)|(apply zAG;exact rfl;(first|with_reducible exact zAS|with_reducible exact zAx|with_reducible exact zAw|with_reducible exact zA0|with_reducible exact zAf|with_reducible exact zA1|with_reducible exact zAg);exact rfl;exact rfl)|(apply k1u (hd:=rfl);exact rfl;exact rfl)|(apply zAn;exact rfl;exact rfl;first|assumption|omega)|(apply zAs;exact rfl;exact rfl;first|assumption|omega)|apply ay (hd:=rfl)|exact zAJ rfl|exact zAD rfl|(apply zBZ;exact rfl;(with_reducible exact zCY))|exact zAj rfl rfl|exact zAc rfl rfl|exact zAi rfl|(apply zAC;exact rfl;(with_reducible exact zBf))|(apply w1;exact rfl;exact rfl)|(apply gD;exact rfl;exact rfl;(intro hb);rotate_left;(intro hb);rotate_right)|(apply zAL;exact rfl)|(apply zAM;exact rfl)|apply zAO|apply eb_n
   all_goals first|omega|skip
   all_goals exact zBN rfl
  ·skip
   rw[show (!decide (s.of = -1)&&decide ((s.tries.length:Int)=0))=false from by first|(rw[decide_eq_true q0,decide_eq_false q1];done)|(rw[decide_eq_true q0,decide_eq_false q1];rfl)]at hS
   repeat' first|apply en_n|apply zAK|apply zAA|apply zAF|apply w0|(refine zCl [0,1,2,3,6,7,4] [4,5,6] rfl rfl zAq (hS) rfl ?_ rfl rfl (by decide) rfl rfl rfl rfl rfl rfl ?_;(repeat (refine zAB rfl ?_));exact zAE)|(apply zAG;exact rfl;(first|with_reducible exact zAS|with_reducible exact zAx|with_reducible exact zAw|with_reducible exact zA0|with_reducible exact zAf|with_reducible exact zA1|with_reducible exact zAg);exact rfl;exact rfl)|(apply k1u (hd:=rfl);exact rfl;exact rfl)|(apply zAn;exact rfl;exact rfl;first|assumption|omega)|(apply zAs;exact rfl;exact rfl;first|assumption|omega)|apply ay (hd:=rfl)|exact zAJ rfl|exact zAD rfl|(apply zBZ;exact rfl;(with_reducible exact zCY))|exact zAj rfl rfl|exact zAc rfl rfl|exact zAi rfl|(apply zAC;exact rfl;(with_reducible exact zBf))|(apply w1;exact rfl;exact rfl)|(apply gD;exact rfl;exact rfl;(intro hb);rotate_left;(intro hb);rotate_right)|(apply zAL;exact rfl)|(apply zAM;exact rfl)|apply zAO|apply eb_n
   all_goals first|omega|skip
   all_goals exact zBN rfl
 ·skip
  by_cases q1:(s.tries.length:Int)=0
  ·skip
   rw[show (!decide (s.of = -1)&&decide ((s.tries.length:Int)=0))=true from by first|(rw[decide_eq_false q0,decide_eq_true q1];done)|(rw[decide_eq_false q0,decide_eq_true q1];rfl)]at hS
   repeat' first|apply en_n|apply zAK|apply zAA|apply zAF|apply w0|(refine zCl [0,1,2,3,6,7,4] [4,5,6] rfl rfl zAq (hS) rfl ?_ rfl rfl (by decide) rfl rfl rfl rfl rfl rfl ?_;(repeat (refine zAB rfl ?_));exact zAE)|(apply zAG;exact rfl;(first|with_reducible exact zAS|with_reducible exact zAx|with_reducible exact zAw|with_reducible exact zA0|with_reducible exact zAf|with_reducible exact zA1|with_reducible exact zAg);exact rfl;exact rfl)|(apply k1u (hd:=rfl);exact rfl;exact rfl)|(apply zAn;exact rfl;exact rfl;first|assumption|omega)|(apply zAs;exact rfl;exact rfl;first|assumption|omega)|apply ay (hd:=rfl)|exact zAJ rfl|exact zAD rfl|(apply zBZ;exact rfl;(with_reducible exact zCY))|exact zAj rfl rfl|exact zAc rfl rfl|exact zAi rfl|(apply zAC;exact rfl;(with_reducible exact zBf))|(apply w1;exact rfl;exact rfl)|(apply gD;exact rfl;exact rfl;(intro hb);rotate_left;(intro hb);rotate_right)|(apply zAL;exact rfl)|(apply zAM;exact rfl)|apply zAO|apply eb_n
   all_goals first|omega|skip
   all_goals exact zBN rfl
  ·skip
   rw[show (!decide (s.of = -1)&&decide ((s.tries.length:Int)=0))=false from by first|(rw[decide_eq_false q0,decide_eq_false q1];done)|(rw[decide_eq_false q0,decide_eq_false q1];rfl)]at hS
   repeat' first|apply en_n|apply zAK|apply zAA|apply zAF|apply w0|(refine zCl [0,1,2,3,6,7,4] [4,5,6] rfl rfl zAq (hS) rfl ?_ rfl rfl (by decide) rfl rfl rfl rfl rfl rfl ?_;(repeat (refine zAB rfl ?_));exact zAE)|(apply zAG;exact rfl;(first|with_reducible exact zAS|with_reducible exact zAx|with_reducible exact zAw|with_reducible exact zA0|with_reducible exact zAf|with_reducible exact zA1|with_reducible exact zAg);exact rfl;exact rfl)|(apply k1u (hd:=rfl);exact rfl;exact rfl)|(apply zAn;exact rfl;exact rfl;first|assumption|omega)|(apply zAs;exact rfl;exact rfl;first|assumption|omega)|apply ay (hd:=rfl)|exact zAJ rfl|exact zAD rfl|(apply zBZ;exact rfl;(with_reducible exact zCY))|exact zAj rfl rfl|exact zAc rfl rfl|exact zAi rfl|(apply zAC;exact rfl;(with_reducible exact zBf))|(apply w1;exact rfl;exact rfl)|(apply gD;exact rfl;exact rfl;(intro hb);rotate_left;(intro hb);rotate_right)|(apply zAL;exact rfl)|(apply zAM;exact rfl)|apply zAO|apply eb_n
   all_goals first|omega|skip
   all_goals exact zBN rfl
set_option maxHeartbeats 4000000 in
theorem zZN(m:Img)(c c':CK){k a b:Int}{s:CS}(hd:DoAt m c k ⟨11,a,b⟩ s)(hS:zD3 m c c' s true (flo s) (1) (1) (decide (a<8)) (.d (zCL [k+1]))): DoTo m c c' k:=by
 refine zC4 Tryz.func74 rfl Tryz.ntmps74 Tryz.results74 rfl ?_
 intro wb St0 X fx
 refine zCn m c hd wb St0 X fx _ ?_
 obtain⟨hk0,hat0,hst0,hbig,hlen,hh,htr,ha,hb,_⟩:=hd
 have hr0:=(List.getElem?_eq_some_iff.1 hst0).1
 have hk1:k<(c.at_.length:Int):=by omega
 dsimp only at ha hb
 clear hat0 hst0
 conv=>arg 2;whnf
 by_cases q0:a<8
 ·skip
  rw[show (decide (a<8))=true from by first|(rw[decide_eq_true q0];done)|(rw[decide_eq_true q0];rfl)]at hS
  repeat' first|apply en_n|apply zAK|apply zAA|apply zAF|apply w0|(refine zCG zBA zBK zCM rfl rfl (zAa rfl zAR) rfl)|(refine zCl [0,1,2,3,6,7,4] [4,5,6] rfl rfl zAq (hS) rfl ?_ rfl rfl (by decide) rfl rfl rfl rfl rfl rfl ?_;(repeat (refine zAB rfl ?_));exact zAE)|(apply zAG;exact rfl;(first|with_reducible exact zAS|with_reducible exact zAx|with_reducible exact zAw|with_reducible exact zA0|with_reducible exact zAf|with_reducible exact zA1|with_reducible exact zAg);exact rfl;exact rfl)|(apply zC9;exact rfl;exact rfl;first|assumption|omega)|(apply zAn;exact rfl;exact rfl;first|assumption|omega)|(apply zAs;exact rfl;exact rfl;first|assumption|omega)|apply ay (hd:=rfl)|exact zAJ rfl|exact zAD rfl|(apply zBL;exact rfl;exact rfl)|exact zAi rfl|(apply zAC;exact rfl;(with_reducible exact zAu))|(apply zAL;exact rfl)|(apply zAM;exact rfl)|apply zAO|apply eb_n
  all_goals first|omega|skip
  all_goals exact zBN rfl
 ·skip
  rw[show (decide (a<8))=false from by first|(rw[decide_eq_false q0];done)|(rw[decide_eq_false q0];rfl)]at hS
  repeat' first|apply en_n|apply zAK|apply zAA|apply zAF|apply w0|(refine zCG zBA zBK zCM rfl rfl (zAa rfl zAR) rfl)|(refine zCl [0,1,2,3,6,7,4] [4,5,6] rfl rfl zAq (hS) rfl ?_ rfl rfl (by decide) rfl rfl rfl rfl rfl rfl ?_;(repeat (refine zAB rfl ?_));exact zAE)|(apply zAG;exact rfl;(first|with_reducible exact zAS|with_reducible exact zAx|with_reducible exact zAw|with_reducible exact zA0|with_reducible exact zAf|with_reducible exact zA1|with_reducible exact zAg);exact rfl;exact rfl)|(apply zCk;exact rfl;exact rfl;first|assumption|omega)|(apply zAn;exact rfl;exact rfl;first|assumption|omega)|(apply zAs;exact rfl;exact rfl;first|assumption|omega)|apply ay (hd:=rfl)|exact zAJ rfl|exact zAD rfl|(apply zBL;exact rfl;exact rfl)|exact zAi rfl|(apply zAC;exact rfl;(with_reducible exact zAu))|(apply zAL;exact rfl)|(apply zAM;exact rfl)|apply zAO|apply eb_n
  all_goals first|omega|skip
  all_goals exact zBN rfl
end Go.Proofs.YtcagoomibpcdlaaGreatDoor
