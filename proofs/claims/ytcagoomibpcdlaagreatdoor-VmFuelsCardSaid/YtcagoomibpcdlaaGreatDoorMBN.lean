/- Texts of this claim, merged: VmDG. -/
import Derived.Test.YtcagoomibpcdlaaGreatDoorMBD
namespace Go.Proofs.YtcagoomibpcdlaaGreatDoor
open Go.Sx Go.Vm
attribute [local irreducible] zAQ Program.underlying Ylds zBD alex zCA zBi awp zAp zCI zCH zAW zBw zA5 zD4 zB0 zBp zBF zBv zB9 zCE zES zBn zBm zBs JFit
set_option maxHeartbeats 4000000 in
theorem do_1(m:Img)(c c':CK){k a b:Int}{s:CS}(hd:DoAt m c k ⟨1,a,b⟩ s)(hS:zD3 m c c' s true (flo s) (0) (1) (decide (a<(m.pool.length:Int))) (.d (zCL [k+1]))): DoTo m c c' k:=by
 refine zC4 Tryz.func74 rfl Tryz.ntmps74 Tryz.results74 rfl ?_
 intro wb St0 X fx
 refine zCn m c hd wb St0 X fx _ ?_
 obtain⟨hk0,hat0,hst0,hbig,hlen,hh,htr,ha,hb,_⟩:=hd
 have hr0:=(List.getElem?_eq_some_iff.1 hst0).1
 have hk1:k<(c.at_.length:Int):=by omega
 dsimp only at ha hb
 clear hat0 hst0
 conv=>arg 2;whnf
 by_cases q0:a<(m.pool.length:Int)
 ·skip
  rw[show (decide (a<(m.pool.length:Int)))=true from by first|(rw[decide_eq_true q0];done)|(rw[decide_eq_true q0];rfl)]at hS
  repeat' first|apply en_n|apply zAK|apply zAA|apply zAF|apply w0|(refine zCG zBA zBK zCM rfl rfl (zAa rfl zAR) rfl)|(refine zBr (by kernel_rfl) ?_;refine zCl [0,1,2,3,6,7,4] [4,5,6] rfl rfl zAq (hS) rfl ?_ rfl rfl (by decide) rfl rfl rfl rfl rfl rfl ?_;(repeat (refine zAB rfl ?_));exact zAE)|exact zAN rfl|(apply zAG;exact rfl;(first|with_reducible exact zAS|with_reducible exact zAx|with_reducible exact zAw|with_reducible exact zA0|with_reducible exact zAf|with_reducible exact zA1|with_reducible exact zAg);exact rfl;exact rfl)|(apply zC9;exact rfl;exact rfl;first|assumption|omega)|(apply zAn;exact rfl;exact rfl;first|assumption|omega)|(apply zAs;exact rfl;exact rfl;first|assumption|omega)|apply ay (hd:=rfl)|exact zAJ rfl|exact zAD rfl|(apply zBZ;exact rfl;(with_reducible exact zF3))|(apply zBL;exact rfl;exact rfl)|exact zAi rfl|(apply zAC;exact rfl;(with_reducible first|exact zCi|exact zAu|exact zDA))|(apply zAL;exact rfl)|(apply zAM;exact rfl)|apply zAO|refine zAr (by kernel_rfl) (by kernel_rfl) ?_|apply eb_n
  all_goals first|omega|skip
  all_goals exact zBN rfl
 ·skip
  rw[show (decide (a<(m.pool.length:Int)))=false from by first|(rw[decide_eq_false q0];done)|(rw[decide_eq_false q0];rfl)]at hS
  repeat' first|apply en_n|apply zAK|apply zAA|apply zAF|apply w0|(refine zCG zBA zBK zCM rfl rfl (zAa rfl zAR) rfl)|(refine zBr (by kernel_rfl) ?_;refine zCl [0,1,2,3,6,7,4] [4,5,6] rfl rfl zAq (hS) rfl ?_ rfl rfl (by decide) rfl rfl rfl rfl rfl rfl ?_;(repeat (refine zAB rfl ?_));exact zAE)|exact zAN rfl|(apply zAG;exact rfl;(first|with_reducible exact zAS|with_reducible exact zAx|with_reducible exact zAw|with_reducible exact zA0|with_reducible exact zAf|with_reducible exact zA1|with_reducible exact zAg);exact rfl;exact rfl)|(apply zCk;exact rfl;exact rfl;first|assumption|omega)|(apply zAn;exact rfl;exact rfl;first|assumption|omega)|(apply zAs;exact rfl;exact rfl;first|assumption|omega)|apply ay (hd:=rfl)|exact zAJ rfl|exact zAD rfl|(apply zBZ;exact rfl;(with_reducible exact zF3))|(apply zBL;exact rfl;exact rfl)|exact zAi rfl|(apply zAC;exact rfl;(with_reducible first|exact zCi|exact zAu|exact zDA))|(apply zAL;exact rfl)|(apply zAM;exact rfl)|apply zAO|refine zAr (by kernel_rfl) (by kernel_rfl) ?_|apply eb_n
  all_goals first|omega|skip
  all_goals exact zBN rfl
set_option maxHeartbeats 4000000 in
theorem do_3(m:Img)(c c':CK){k a b:Int}{s:CS}(hd:DoAt m c k ⟨3,a,b⟩ s)(hgi:0≤getI c.has s.of∧getI c.has s.of≤2000000)(hS:zD3 m c c' s true (flo s) (0) (1) (!decide (s.of = -1)&&decide (a<getI c.has s.of-1)) (.d (zCL [k+1]))): DoTo m c c' k:=by
 refine zC4 Tryz.func74 rfl Tryz.ntmps74 Tryz.results74 rfl ?_
 intro wb St0 X fx
 refine zCn m c hd wb St0 X fx _ ?_
 obtain⟨hk0,hat0,hst0,hbig,hlen,hh,htr,ha,hb,_⟩:=hd
 have hr0:=(List.getElem?_eq_some_iff.1 hst0).1
 have hk1:k<(c.at_.length:Int):=by omega
 dsimp only at ha hb
 clear hat0 hst0
 conv=>arg 2;whnf
 by_cases q0:s.of = -1
 ·skip
  by_cases q1:a<getI c.has s.of-1
  ·skip
   rw[show (!decide (s.of = -1)&&decide (a<getI c.has s.of-1))=false from by first|(rw[decide_eq_true q0,decide_eq_true q1];done)|(rw[decide_eq_true q0,decide_eq_true q1];rfl)]at hS
   repeat' first|apply en_n|apply zAK|apply zAA|apply zAF|apply w0|(refine zHB rfl rfl rfl)|(refine zCG zBA zBK zCM rfl rfl (zAa rfl zAR) rfl)|(refine zBr (by kernel_rfl) ?_;refine zCl [0,1,2,3,6,7,4] [4,5,6] rfl rfl zAq (hS) rfl ?_ rfl rfl (by decide) rfl rfl rfl rfl rfl rfl ?_;(repeat (refine zAB rfl ?_));exact zAE)|exact zAN rfl|(apply zAG;exact rfl;(first|with_reducible exact zAS|with_reducible exact zAx|with_reducible exact zAw|with_reducible exact zA0|with_reducible exact zAf|with_reducible exact zA1|with_reducible exact zAg);exact rfl;exact rfl)|(apply zC9;exact rfl;exact rfl;first|assumption|omega)|(apply zAn;exact rfl;exact rfl;first|assumption|omega)|(apply zAs;exact rfl;exact rfl;first|assumption|omega)|apply ay (hd:=rfl)|exact zAJ rfl|exact zAD rfl|(apply zBL;exact rfl;exact rfl)|(apply zDX;exact rfl;exact rfl)|exact zAj rfl rfl|exact zAc rfl rfl|exact zAi rfl|(apply zAC;exact rfl;(with_reducible first|exact zAu|exact zCz|exact zD6))|(apply w1;exact rfl;exact rfl)|(apply k1 (hd:=rfl);exact rfl;exact rfl)|(apply gD;exact rfl;exact rfl;(intro hb);rotate_left;(intro hb);rotate_right)|(apply zAL;exact rfl)|(apply zAM;exact rfl)|apply zAO|refine zAr (by kernel_rfl) (by kernel_rfl) ?_|apply eb_n
   all_goals first|omega|skip
   all_goals exact zBN rfl
  ·skip
   rw[show (!decide (s.of = -1)&&decide (a<getI c.has s.of-1))=false from by first|(rw[decide_eq_true q0,decide_eq_false q1];done)|(rw[decide_eq_true q0,decide_eq_false q1];rfl)]at hS
   repeat' first|apply en_n|apply zAK|apply zAA|apply zAF|apply w0|(refine zHB rfl rfl rfl)|(refine zCG zBA zBK zCM rfl rfl (zAa rfl zAR) rfl)|(refine zBr (by kernel_rfl) ?_;refine zCl [0,1,2,3,6,7,4] [4,5,6] rfl rfl zAq (hS) rfl ?_ rfl rfl (by decide) rfl rfl rfl rfl rfl rfl ?_;(repeat (refine zAB rfl ?_));exact zAE)|exact zAN rfl|(apply zAG;exact rfl;(first|with_reducible exact zAS|with_reducible exact zAx|with_reducible exact zAw|with_reducible exact zA0|with_reducible exact zAf|with_reducible exact zA1|with_reducible exact zAg);exact rfl;exact rfl)|(apply zC9;exact rfl;exact rfl;first|assumption|omega)|(apply zAn;exact rfl;exact rfl;first|assumption|omega)|(apply zAs;exact rfl;exact rfl;first|assumption|omega)|apply ay (hd:=rfl)|exact zAJ rfl|exact zAD rfl|(apply zBL;exact rfl;exact rfl)|(apply zDX;exact rfl;exact rfl)|exact zAj rfl rfl|exact zAc rfl rfl|exact zAi rfl|(apply zAC;exact rfl;(with_reducible first|exact zAu|exact zCz|exact zD6))|(apply w1;exact rfl;exact rfl)|(apply k1 (hd:=rfl);exact rfl;exact rfl)|(apply gD;exact rfl;exact rfl;(intro hb);rotate_left;(intro hb);rotate_right)|(apply zAL;exact rfl)|(apply zAM;exact rfl)|apply zAO|refine zAr (by kernel_rfl) (by kernel_rfl) ?_|apply eb_n
   all_goals first|omega|skip
   all_goals exact zBN rfl
 ·skip
  by_cases q1:a<getI c.has s.of-1
  ·skip
   rw[show (!decide (s.of = -1)&&decide (a<getI c.has s.of-1))=true from by first|(rw[decide_eq_false q0,decide_eq_true q1];done)|(rw[decide_eq_false q0,decide_eq_true q1];rfl)]at hS
   repeat' first|apply en_n|apply zAK|apply zAA|apply zAF|apply w0|(refine zHB rfl rfl rfl)|(refine zCG zBA zBK zCM rfl rfl (zAa rfl zAR) rfl)|(refine zBr (by kernel_rfl) ?_;refine zCl [0,1,2,3,6,7,4] [4,5,6] rfl rfl zAq (hS) rfl ?_ rfl rfl (by decide) rfl rfl rfl rfl rfl rfl ?_;(repeat (refine zAB rfl ?_));exact zAE)|exact zAN rfl|(apply zAG;exact rfl;(first|with_reducible exact zAS|with_reducible exact zAx|with_reducible exact zAw|with_reducible exact zA0|with_reducible exact zAf|with_reducible exact zA1|with_reducible exact zAg);exact rfl;exact rfl)|(apply zC9;exact rfl;exact rfl;first|assumption|omega)|(apply zAn;exact rfl;exact rfl;first|assumption|omega)|(apply zAs;exact rfl;exact rfl;first|assumption|omega)|apply ay (hd:=rfl)|exact zAJ rfl|exact zAD rfl|(apply zBL;exact rfl;exact rfl)|(apply zDX;exact rfl;exact rfl)|exact zAj rfl rfl|exact zAc rfl rfl|exact zAi rfl|(apply zAC;exact rfl;(with_reducible first|exact zAu|exact zCz|exact zD6))|(apply w1;exact rfl;exact rfl)|(apply k1 (hd:=rfl);exact rfl;exact rfl)|(apply gD;exact rfl;exact rfl;(intro hb);rotate_left;(intro hb);rotate_right)|(apply zAL;exact rfl)|(apply zAM;exact rfl)|apply zAO|refine zAr (by kernel_rfl) (by kernel_rfl) ?_|apply eb_n
   all_goals first|omega|skip
   all_goals exact zBN rfl
  ·skip
   rw[show (!decide (s.of = -1)&&decide (a<getI c.has s.of-1))=false from by first|(rw[decide_eq_false q0,decide_eq_false q1];done)|(rw[decide_eq_false q0,decide_eq_false q1];rfl)]at hS
   repeat' first|apply en_n|apply zAK|apply zAA|apply zAF|apply w0|(refine zHB rfl rfl rfl)|(refine zCG zBA zBK zCM rfl rfl (zAa rfl zAR) rfl)|(refine zBr (by kernel_rfl) ?_;refine zCl [0,1,2,3,6,7,4] [4,5,6] rfl rfl zAq (hS) rfl ?_ rfl rfl (by decide) rfl rfl rfl rfl rfl rfl ?_;(repeat (refine zAB rfl ?_));exact zAE)|exact zAN rfl|(apply zAG;exact rfl;(first|with_reducible exact zAS|with_reducible exact zAx|with_reducible exact zAw|with_reducible exact zA0|with_reducible exact zAf|with_reducible exact zA1|with_reducible exact zAg);exact rfl;exact rfl)|(apply zCk;exact rfl;exact rfl;first|assumption|omega)|(apply zAn;exact rfl;exact rfl;first|assumption|omega)|(apply zAs;exact rfl;exact rfl;first|assumption|omega)|apply ay (hd:=rfl)|exact zAJ rfl|exact zAD rfl|(apply zBL;exact rfl;exact rfl)|(apply zDX;exact rfl;exact rfl)|exact zAj rfl rfl|exact zAc rfl rfl|exact zAi rfl|(apply zAC;exact rfl;(with_reducible first|exact zAu|exact zCz|exact zD6))|(apply w1;exact rfl;exact rfl)|(apply k1 (hd:=rfl);exact rfl;exact rfl)|(apply gD;exact rfl;exact rfl;(intro hb);rotate_left;(intro hb);rotate_right)|(apply zAL;exact rfl)|(apply zAM;exact rfl)|apply zAO|refine zAr (by kernel_rfl) (by kernel_rfl) ?_|apply eb_n
   all_goals first|omega|skip
   all_goals exact zBN rfl
set_option maxHeartbeats 4000000 in
theorem zZO(m:Img)(c c':CK){k a b:Int}{s:CS}(hd:DoAt m c k ⟨10,a,b⟩ s){cb:Bool}(hQ:conQ m c a cb)(hS:zD3 m c c' s true (flo s) (b) (1) (cb&&decide (b≤8)) (.d (zCL [k+1]))): DoTo m c c' k:=by
 refine zC4 Tryz.func74 rfl Tryz.ntmps74 Tryz.results74 rfl ?_
 intro wb St0 X fx
 refine zCn m c hd wb St0 X fx _ ?_
 obtain⟨hk0,hat0,hst0,hbig,hlen,hh,htr,ha,hb,_⟩:=hd
 have hr0:=(List.getElem?_eq_some_iff.1 hst0).1
 have hk1:k<(c.at_.length:Int):=by omega
 dsimp only at ha hb
 clear hat0 hst0
 conv=>arg 2;whnf
 cases cb
 ·skip
  by_cases q1:b≤8
  ·skip
   rw[show (false&&decide (b≤8))=false from by first|(rw[decide_eq_true q1];done)|(rw[decide_eq_true q1];rfl)]at hS
   repeat' first|apply en_n|apply zAK|apply zAA|apply zAF|apply w0|(refine zAZ ids4 [] rfl rfl zFX (hQ) rfl ?_ rfl (by decide) rfl rfl rfl rfl;(repeat (refine zAB rfl ?_));exact zAE)|(refine zCG zBA zBK zCM rfl rfl (zAa rfl zAR) rfl)|(refine zBr (by kernel_rfl) ?_;refine zCl [0,1,2,3,6,7,4] [4,5,6] rfl rfl zAq (hS) rfl ?_ rfl rfl (by decide) rfl rfl rfl rfl rfl rfl ?_;(repeat (refine zAB rfl ?_));exact zAE)|(apply zAG;exact rfl;(first|with_reducible exact zAS|with_reducible exact zAx|with_reducible exact zAw|with_reducible exact zA0|with_reducible exact zAf|with_reducible exact zA1|with_reducible exact zAg);exact rfl;exact rfl)|(apply zAn;exact rfl;exact rfl;first|assumption|omega)|(apply zAs;exact rfl;exact rfl;first|assumption|omega)|apply ay (hd:=rfl)|exact zAJ rfl|exact zAD rfl|(apply zBL;exact rfl;exact rfl)|exact zAc rfl rfl|exact zAi rfl|(apply zAC;exact rfl;(with_reducible first|exact zAu|exact zCd))|(apply k1 (hd:=rfl);exact rfl;exact rfl)|(apply zAL;exact rfl)|(apply zAM;exact rfl)|apply zAO|refine zAr (by kernel_rfl) (by kernel_rfl) ?_|apply eb_n
   all_goals first|omega|skip
   all_goals exact zBN rfl
  ·skip
   rw[show (false&&decide (b≤8))=false from by first|(rw[decide_eq_false q1];done)|(rw[decide_eq_false q1];rfl)]at hS
   repeat' first|apply en_n|apply zAK|apply zAA|apply zAF|apply w0|(refine zAZ ids4 [] rfl rfl zFX (hQ) rfl ?_ rfl (by decide) rfl rfl rfl rfl;(repeat (refine zAB rfl ?_));exact zAE)|(refine zCG zBA zBK zCM rfl rfl (zAa rfl zAR) rfl)|(refine zBr (by kernel_rfl) ?_;refine zCl [0,1,2,3,6,7,4] [4,5,6] rfl rfl zAq (hS) rfl ?_ rfl rfl (by decide) rfl rfl rfl rfl rfl rfl ?_;(repeat (refine zAB rfl ?_));exact zAE)|(apply zAG;exact rfl;(first|with_reducible exact zAS|with_reducible exact zAx|with_reducible exact zAw|with_reducible exact zA0|with_reducible exact zAf|with_reducible exact zA1|with_reducible exact zAg);exact rfl;exact rfl)|(apply zAn;exact rfl;exact rfl;first|assumption|omega)|(apply zAs;exact rfl;exact rfl;first|assumption|omega)|apply ay (hd:=rfl)|exact zAJ rfl|exact zAD rfl|(apply zBL;exact rfl;exact rfl)|exact zAc rfl rfl|exact zAi rfl|(apply zAC;exact rfl;(with_reducible first|exact zAu|exact zCd))|(apply k1 (hd:=rfl);exact rfl;exact rfl)|(apply zAL;exact rfl)|(apply zAM;exact rfl)|apply zAO|refine zAr (by kernel_rfl) (by kernel_rfl) ?_|apply eb_n
   all_goals first|omega|skip
   all_goals exact zBN rfl
 ·skip
  by_cases q1:b≤8
  ·skip
   rw[show (true&&decide (b≤8))=true from by first|(rw[decide_eq_true q1];done)|(rw[decide_eq_true q1];rfl)]at hS
   repeat' first|apply en_n|apply zAK|apply zAA|apply zAF|apply w0|(refine zAZ ids4 [] rfl rfl zFX (hQ) rfl ?_ rfl (by decide) rfl rfl rfl rfl;(repeat (refine zAB rfl ?_));exact zAE)|(refine zCG zBA zBK zCM rfl rfl (zAa rfl zAR) rfl)|(refine zBr (by kernel_rfl) ?_;refine zCl [0,1,2,3,6,7,4] [4,5,6] rfl rfl zAq (hS) rfl ?_ rfl rfl (by decide) rfl rfl rfl rfl rfl rfl ?_;(repeat (refine zAB rfl ?_));exact zAE)|(apply zAG;exact rfl;(first|with_reducible exact zAS|with_reducible exact zAx|with_reducible exact zAw|with_reducible exact zA0|with_reducible exact zAf|with_reducible exact zA1|with_reducible exact zAg);exact rfl;exact rfl)|(apply zN7;exact rfl;exact rfl;first|assumption|omega)|(apply zAn;exact rfl;exact rfl;first|assumption|omega)|(apply zAs;exact rfl;exact rfl;first|assumption|omega)|apply ay (hd:=rfl)|exact zAJ rfl|exact zAD rfl|(apply zBL;exact rfl;exact rfl)|exact zAj rfl rfl|exact zAi rfl|(apply zAC;exact rfl;(with_reducible first|exact zAu|exact zCd))|(apply w1;exact rfl;exact rfl)|(apply zAL;exact rfl)|(apply zAM;exact rfl)|apply zAO|refine zAr (by kernel_rfl) (by kernel_rfl) ?_|apply eb_n
   all_goals first|omega|skip
   all_goals exact zBN rfl
  ·skip
   rw[show (true&&decide (b≤8))=false from by first|(rw[decide_eq_false q1];done)|(rw[decide_eq_false q1];rfl)]at hS
   repeat' first|apply en_n|apply zAK|apply zAA|apply zAF|apply w0|(refine zAZ ids4 [] rfl rfl zFX (hQ) rfl ?_ rfl (by decide) rfl rfl rfl rfl;(repeat (refine zAB rfl ?_));exact zAE)|(refine zCG zBA zBK zCM rfl rfl (zAa rfl zAR) rfl)|(refine zBr (by kernel_rfl) ?_;refine zCl [0,1,2,3,6,7,4] [4,5,6] rfl rfl zAq (hS) rfl ?_ rfl rfl (by decide) rfl rfl rfl rfl rfl rfl ?_;(repeat (refine zAB rfl ?_));exact zAE)|(apply zAG;exact rfl;(first|with_reducible exact zAS|with_reducible exact zAx|with_reducible exact zAw|with_reducible exact zA0|with_reducible exact zAf|with_reducible exact zA1|with_reducible exact zAg);exact rfl;exact rfl)|(apply zL2;exact rfl;exact rfl;first|assumption|omega)|(apply zAn;exact rfl;exact rfl;first|assumption|omega)|(apply zAs;exact rfl;exact rfl;first|assumption|omega)|apply ay (hd:=rfl)|exact zAJ rfl|exact zAD rfl|(apply zBL;exact rfl;exact rfl)|exact zAj rfl rfl|exact zAi rfl|(apply zAC;exact rfl;(with_reducible first|exact zAu|exact zCd))|(apply w1;exact rfl;exact rfl)|(apply zAL;exact rfl)|(apply zAM;exact rfl)|apply zAO|refine zAr (by kernel_rfl) (by kernel_rfl) ?_|apply eb_n
   all_goals first|omega|skip
   all_goals exact zBN rfl
set_option maxHeartbeats 4000000 in
theorem zZM(m:Img)(c c':CK){k a b:Int}{s:CS}(hd:DoAt m c k ⟨12,a,b⟩ s)(hS:zD3 m c c' s true (flo s) (takes a) (1) (decide (takes a>0)) (.d (zCL [k+1]))): DoTo m c c' k:=by
 refine zC4 Tryz.func74 rfl Tryz.ntmps74 Tryz.results74 rfl ?_
 intro wb St0 X fx
 refine zCn m c hd wb St0 X fx _ ?_
 obtain⟨hk0,hat0,hst0,hbig,hlen,hh,htr,ha,hb,_⟩:=hd
 have hr0:=(List.getElem?_eq_some_iff.1 hst0).1
 have hk1:k<(c.at_.length:Int):=by omega
 dsimp only at ha hb
 clear hat0 hst0
 conv=>arg 2;whnf
 have hTk:=zEk a
 by_cases q0:takes a>0
 ·skip
  rw[show (decide (takes a>0))=true from by first|(rw[decide_eq_true q0];done)|(rw[decide_eq_true q0];rfl)]at hS
  repeat' first|apply en_n|apply zAK|apply zAA|apply zAF|apply w0|(refine zAh zCD hTk (zAa rfl zAR))|(refine zCG zBA zBK zCM rfl rfl (zAa rfl zAR) rfl)|(refine zBr (by kernel_rfl) ?_;refine zCl [0,1,2,3,6,7,4] [4,5,6] rfl rfl zAq (hS) rfl ?_ rfl rfl (by decide) rfl rfl rfl rfl rfl rfl ?_;(repeat (refine zAB rfl ?_));exact zAE)|(apply zAG;exact rfl;(first|with_reducible exact zAS|with_reducible exact zAx|with_reducible exact zAw|with_reducible exact zA0|with_reducible exact zAf|with_reducible exact zA1|with_reducible exact zAg);exact rfl;exact rfl)|(apply zE2;exact rfl;exact rfl;first|assumption|omega)|(apply zAn;exact rfl;exact rfl;first|assumption|omega)|(apply zAs;exact rfl;exact rfl;first|assumption|omega)|apply ay (hd:=rfl)|exact zAJ rfl|exact zAD rfl|(apply zBL;exact rfl;exact rfl)|exact zAi rfl|(apply zAC;exact rfl;(with_reducible exact zAu))|(apply zAL;exact rfl)|(apply zAM;exact rfl)|apply zAO|refine zAr (by kernel_rfl) (by kernel_rfl) ?_|apply eb_n
  all_goals first|omega|skip
  all_goals exact zBN rfl
 ·skip
  rw[show (decide (takes a>0))=false from by first|(rw[decide_eq_false q0];done)|(rw[decide_eq_false q0];rfl)]at hS
  repeat' first|apply en_n|apply zAK|apply zAA|apply zAF|apply w0|(refine zAh zCD hTk (zAa rfl zAR))|(refine zCG zBA zBK zCM rfl rfl (zAa rfl zAR) rfl)|(refine zBr (by kernel_rfl) ?_;refine zCl [0,1,2,3,6,7,4] [4,5,6] rfl rfl zAq (hS) rfl ?_ rfl rfl (by decide) rfl rfl rfl rfl rfl rfl ?_;(repeat (refine zAB rfl ?_));exact zAE)|(apply zAG;exact rfl;(first|with_reducible exact zAS|with_reducible exact zAx|with_reducible exact zAw|with_reducible exact zA0|with_reducible exact zAf|with_reducible exact zA1|with_reducible exact zAg);exact rfl;exact rfl)|(apply zDt;exact rfl;exact rfl;first|assumption|omega)|(apply zAn;exact rfl;exact rfl;first|assumption|omega)|(apply zAs;exact rfl;exact rfl;first|assumption|omega)|apply ay (hd:=rfl)|exact zAJ rfl|exact zAD rfl|(apply zBL;exact rfl;exact rfl)|exact zAi rfl|(apply zAC;exact rfl;(with_reducible exact zAu))|(apply zAL;exact rfl)|(apply zAM;exact rfl)|apply zAO|refine zAr (by kernel_rfl) (by kernel_rfl) ?_|apply eb_n
  all_goals first|omega|skip
  all_goals exact zBN rfl
set_option maxHeartbeats 4000000 in
theorem zZF(m:Img)(c c':CK){k a b:Int}{s:CS}(hd:DoAt m c k ⟨19,a,b⟩ s){cb:Bool}(hQ:conQ m c b cb)(hS:zD3 m c c' s true (flo s) (0) (0) (decide (s.height>0)&&cb) (.d (zCL [a,k+1]))): DoTo m c c' k:=by
 refine zC4 Tryz.func74 rfl Tryz.ntmps74 Tryz.results74 rfl ?_
 intro wb St0 X fx
 refine zCn m c hd wb St0 X fx _ ?_
 obtain⟨hk0,hat0,hst0,hbig,hlen,hh,htr,ha,hb,_⟩:=hd
 have hr0:=(List.getElem?_eq_some_iff.1 hst0).1
 have hk1:k<(c.at_.length:Int):=by omega
 dsimp only at ha hb
 clear hat0 hst0
 conv=>arg 2;whnf
 by_cases q0:s.height>0
 ·skip
  cases cb
  ·skip
   rw[show (decide (s.height>0)&&false)=false from by first|(rw[decide_eq_true q0];done)|(rw[decide_eq_true q0];rfl)]at hS
   repeat' first|apply en_n|apply zAK|apply zAA|apply zAF|apply w0|(refine zAZ ids4 [] rfl rfl zFX (hQ) rfl ?_ rfl (by decide) rfl rfl rfl rfl;(repeat (refine zAB rfl ?_));exact zAE)|(refine zGK zBA zBK zCM rfl rfl (zAa rfl (zAa rfl zAR)) rfl)|(refine zBr (by kernel_rfl) ?_;refine zCl [0,1,2,3,6,7,4] [4,5,6] rfl rfl zAq (hS) rfl ?_ rfl rfl (by decide) rfl rfl rfl rfl rfl rfl ?_;(repeat (refine zAB rfl ?_));exact zAE)|(apply zAG;exact rfl;(first|with_reducible exact zAS|with_reducible exact zAx|with_reducible exact zAw|with_reducible exact zA0|with_reducible exact zAf|with_reducible exact zA1|with_reducible exact zAg);exact rfl;exact rfl)|(apply zE2;exact rfl;exact rfl;first|assumption|omega)|(apply zAn;exact rfl;exact rfl;first|assumption|omega)|(apply zAs;exact rfl;exact rfl;first|assumption|omega)|apply ay (hd:=rfl)|exact zAJ rfl|exact zAD rfl|(apply zBL;exact rfl;exact rfl)|exact zAj rfl rfl|exact zAi rfl|(apply zAC;exact rfl;(with_reducible first|exact zAu|exact zCd|exact zBy))|(apply w1;exact rfl;exact rfl)|(apply zAL;exact rfl)|(apply zAM;exact rfl)|apply zAO|refine zAr (by kernel_rfl) (by kernel_rfl) ?_|apply eb_n
   all_goals first|omega|skip
   all_goals exact zBN rfl
  ·skip
   rw[show (decide (s.height>0)&&true)=true from by first|(rw[decide_eq_true q0];done)|(rw[decide_eq_true q0];rfl)]at hS
   repeat' first|apply en_n|apply zAK|apply zAA|apply zAF|apply w0|(refine zAZ ids4 [] rfl rfl zFX (hQ) rfl ?_ rfl (by decide) rfl rfl rfl rfl;(repeat (refine zAB rfl ?_));exact zAE)|(refine zGK zBA zBK zCM rfl rfl (zAa rfl (zAa rfl zAR)) rfl)|(refine zBr (by kernel_rfl) ?_;refine zCl [0,1,2,3,6,7,4] [4,5,6] rfl rfl zAq (hS) rfl ?_ rfl rfl (by decide) rfl rfl rfl rfl rfl rfl ?_;(repeat (refine zAB rfl ?_));exact zAE)|(apply zAG;exact rfl;(first|with_reducible exact zAS|with_reducible exact zAx|with_reducible exact zAw|with_reducible exact zA0|with_reducible exact zAf|with_reducible exact zA1|with_reducible exact zAg);exact rfl;exact rfl)|(apply zE2;exact rfl;exact rfl;first|assumption|omega)|(apply zAn;exact rfl;exact rfl;first|assumption|omega)|(apply zAs;exact rfl;exact rfl;first|assumption|omega)|apply ay (hd:=rfl)|exact zAJ rfl|exact zAD rfl|(apply zBL;exact rfl;exact rfl)|exact zAj rfl rfl|exact zAi rfl|(apply zAC;exact rfl;(with_reducible first|exact zAu|exact zCd|exact zBy))|(apply w1;exact rfl;exact rfl)|(apply zAL;exact rfl)|(apply zAM;exact rfl)|apply zAO|refine zAr (by kernel_rfl) (by kernel_rfl) ?_|apply eb_n
   all_goals first|omega|skip
   all_goals exact zBN rfl
 ·skip
  cases cb
  ·skip
   rw[show (decide (s.height>0)&&false)=false from by first|(rw[decide_eq_false q0];done)|(rw[decide_eq_false q0];rfl)]at hS
   repeat' first|apply en_n|apply zAK|apply zAA|apply zAF|apply w0|(refine zGK zBA zBK zCM rfl rfl (zAa rfl (zAa rfl zAR)) rfl)|(refine zBr (by kernel_rfl) ?_;refine zCl [0,1,2,3,6,7,4] [4,5,6] rfl rfl zAq (hS) rfl ?_ rfl rfl (by decide) rfl rfl rfl rfl rfl rfl ?_;(repeat (refine zAB rfl ?_));exact zAE)|(apply zAG;exact rfl;(first|with_reducible exact zAS|with_reducible exact zAx|with_reducible exact zAw|with_reducible exact zA0|with_reducible exact zAf|with_reducible exact zA1|with_reducible exact zAg);exact rfl;exact rfl)|(apply zDt;exact rfl;exact rfl;first|assumption|omega)|(apply zAn;exact rfl;exact rfl;first|assumption|omega)|(apply zAs;exact rfl;exact rfl;first|assumption|omega)|apply ay (hd:=rfl)|exact zAJ rfl|exact zAD rfl|(apply zBL;exact rfl;exact rfl)|exact zAc rfl rfl|exact zAi rfl|(apply zAC;exact rfl;(with_reducible first|exact zAu|exact zBy))|(apply k1 (hd:=rfl);exact rfl;exact rfl)|(apply zAL;exact rfl)|(apply zAM;exact rfl)|apply zAO|refine zAr (by kernel_rfl) (by kernel_rfl) ?_|apply eb_n
   all_goals first|omega|skip
   all_goals exact zBN rfl
  ·skip
   rw[show (decide (s.height>0)&&true)=false from by first|(rw[decide_eq_false q0];done)|(rw[decide_eq_false q0];rfl)]at hS
   repeat' first|apply en_n|apply zAK|apply zAA|apply zAF|apply w0|(refine zGK zBA zBK zCM rfl rfl (zAa rfl (zAa rfl zAR)) rfl)|(refine zBr (by kernel_rfl) ?_;refine zCl [0,1,2,3,6,7,4] [4,5,6] rfl rfl zAq (hS) rfl ?_ rfl rfl (by decide) rfl rfl rfl rfl rfl rfl ?_;(repeat (refine zAB rfl ?_));exact zAE)|(apply zAG;exact rfl;(first|with_reducible exact zAS|with_reducible exact zAx|with_reducible exact zAw|with_reducible exact zA0|with_reducible exact zAf|with_reducible exact zA1|with_reducible exact zAg);exact rfl;exact rfl)|(apply zDt;exact rfl;exact rfl;first|assumption|omega)|(apply zAn;exact rfl;exact rfl;first|assumption|omega)|(apply zAs;exact rfl;exact rfl;first|assumption|omega)|apply ay (hd:=rfl)|exact zAJ rfl|exact zAD rfl|(apply zBL;exact rfl;exact rfl)|exact zAc rfl rfl|exact zAi rfl|(apply zAC;exact rfl;(with_reducible first|exact zAu|exact zBy))|(apply k1 (hd:=rfl);exact rfl;exact rfl)|(apply zAL;exact rfl)|(apply zAM;exact rfl)|apply zAO|refine zAr (by kernel_rfl) (by kernel_rfl) ?_|apply eb_n
   all_goals first|omega|skip
   all_goals exact zBN rfl
set_option maxHeartbeats 4000000 in
theorem zZE(m:Img)(c c':CK){k a b:Int}{s:CS}(hd:DoAt m c k ⟨20,a,b⟩ s){cb:Bool}(hQ:numQ m c b cb)(hS:zD3 m c c' s true (flo s) (0) (0) (decide (s.height>0)&&cb) (.d (zCL [a,k+1]))): DoTo m c c' k:=by
 refine zC4 Tryz.func74 rfl Tryz.ntmps74 Tryz.results74 rfl ?_
 intro wb St0 X fx
 refine zCn m c hd wb St0 X fx _ ?_
 obtain⟨hk0,hat0,hst0,hbig,hlen,hh,htr,ha,hb,_⟩:=hd
 have hr0:=(List.getElem?_eq_some_iff.1 hst0).1
 have hk1:k<(c.at_.length:Int):=by omega
 dsimp only at ha hb
 clear hat0 hst0
 conv=>arg 2;whnf
 by_cases q0:s.height>0
 ·skip
  cases cb
  ·skip
   rw[show (decide (s.height>0)&&false)=false from by first|(rw[decide_eq_true q0];done)|(rw[decide_eq_true q0];rfl)]at hS
   repeat' first|apply en_n|apply zAK|apply zAA|apply zAF|apply w0|(refine zAZ ids4 [] rfl rfl zH3 (hQ) rfl ?_ rfl (by decide) rfl rfl rfl rfl;(repeat (refine zAB rfl ?_));exact zAE)|(refine zGK zBA zBK zCM rfl rfl (zAa rfl (zAa rfl zAR)) rfl)|(refine zBr (by kernel_rfl) ?_;refine zCl [0,1,2,3,6,7,4] [4,5,6] rfl rfl zAq (hS) rfl ?_ rfl rfl (by decide) rfl rfl rfl rfl rfl rfl ?_;(repeat (refine zAB rfl ?_));exact zAE)|(apply zAG;exact rfl;(first|with_reducible exact zAS|with_reducible exact zAx|with_reducible exact zAw|with_reducible exact zA0|with_reducible exact zAf|with_reducible exact zA1|with_reducible exact zAg);exact rfl;exact rfl)|(apply zE2;exact rfl;exact rfl;first|assumption|omega)|(apply zAn;exact rfl;exact rfl;first|assumption|omega)|(apply zAs;exact rfl;exact rfl;first|assumption|omega)|apply ay (hd:=rfl)|exact zAJ rfl|exact zAD rfl|(apply zBL;exact rfl;exact rfl)|exact zAj rfl rfl|exact zAi rfl|(apply zAC;exact rfl;(with_reducible first|exact zAu|exact zCd|exact zBy))|(apply w1;exact rfl;exact rfl)|(apply zAL;exact rfl)|(apply zAM;exact rfl)|apply zAO|refine zAr (by kernel_rfl) (by kernel_rfl) ?_|apply eb_n
   all_goals first|omega|skip
   all_goals exact zBN rfl
  ·skip
   rw[show (decide (s.height>0)&&true)=true from by first|(rw[decide_eq_true q0];done)|(rw[decide_eq_true q0];rfl)]at hS
   repeat' first|apply en_n|apply zAK|apply zAA|apply zAF|apply w0|(refine zAZ ids4 [] rfl rfl zH3 (hQ) rfl ?_ rfl (by decide) rfl rfl rfl rfl;(repeat (refine zAB rfl ?_));exact zAE)|(refine zGK zBA zBK zCM rfl rfl (zAa rfl (zAa rfl zAR)) rfl)|(refine zBr (by kernel_rfl) ?_;refine zCl [0,1,2,3,6,7,4] [4,5,6] rfl rfl zAq (hS) rfl ?_ rfl rfl (by decide) rfl rfl rfl rfl rfl rfl ?_;(repeat (refine zAB rfl ?_));exact zAE)|(apply zAG;exact rfl;(first|with_reducible exact zAS|with_reducible exact zAx|with_reducible exact zAw|with_reducible exact zA0|with_reducible exact zAf|with_reducible exact zA1|with_reducible exact zAg);exact rfl;exact rfl)|(apply zE2;exact rfl;exact rfl;first|assumption|omega)|(apply zAn;exact rfl;exact rfl;first|assumption|omega)|(apply zAs;exact rfl;exact rfl;first|assumption|omega)|apply ay (hd:=rfl)|exact zAJ rfl|exact zAD rfl|(apply zBL;exact rfl;exact rfl)|exact zAj rfl rfl|exact zAi rfl|(apply zAC;exact rfl;(with_reducible first|exact zAu|exact zCd|exact zBy))|(apply w1;exact rfl;exact rfl)|(apply zAL;exact rfl)|(apply zAM;exact rfl)|apply zAO|refine zAr (by kernel_rfl) (by kernel_rfl) ?_|apply eb_n
   all_goals first|omega|skip
   all_goals exact zBN rfl
 ·skip
  cases cb
  ·skip
   rw[show (decide (s.height>0)&&false)=false from by first|(rw[decide_eq_false q0];done)|(rw[decide_eq_false q0];rfl)]at hS
   repeat' first|apply en_n|apply zAK|apply zAA|apply zAF|apply w0|(refine zGK zBA zBK zCM rfl rfl (zAa rfl (zAa rfl zAR)) rfl)|(refine zBr (by kernel_rfl) ?_;refine zCl [0,1,2,3,6,7,4] [4,5,6] rfl rfl zAq (hS) rfl ?_ rfl rfl (by decide) rfl rfl rfl rfl rfl rfl ?_;(repeat (refine zAB rfl ?_));exact zAE)|(apply zAG;exact rfl;(first|with_reducible exact zAS|with_reducible exact zAx|with_reducible exact zAw|with_reducible exact zA0|with_reducible exact zAf|with_reducible exact zA1|with_reducible exact zAg);exact rfl;exact rfl)|(apply zDt;exact rfl;exact rfl;first|assumption|omega)|(apply zAn;exact rfl;exact rfl;first|assumption|omega)|(apply zAs;exact rfl;exact rfl;first|assumption|omega)|apply ay (hd:=rfl)|exact zAJ rfl|exact zAD rfl|(apply zBL;exact rfl;exact rfl)|exact zAc rfl rfl|exact zAi rfl|(apply zAC;exact rfl;(with_reducible first|exact zAu|exact zBy))|(apply k1 (hd:=rfl);exact rfl;exact rfl)|(apply zAL;exact rfl)|(apply zAM;exact rfl)|apply zAO|refine zAr (by kernel_rfl) (by kernel_rfl) ?_|apply eb_n
   all_goals first|omega|skip
   all_goals exact zBN rfl
  ·skip
   rw[show (decide (s.height>0)&&true)=false from by first|(rw[decide_eq_false q0];done)|(rw[decide_eq_false q0];rfl)]at hS
   repeat' first|apply en_n|apply zAK|apply zAA|apply zAF|apply w0|(refine zGK zBA zBK zCM rfl rfl (zAa rfl (zAa rfl zAR)) rfl)|(refine zBr (by kernel_rfl) ?_;refine zCl [0,1,2,3,6,7,4] [4,5,6] rfl rfl zAq (hS) rfl ?_ rfl rfl (by decide) rfl rfl rfl rfl rfl rfl ?_;(repeat (refine zAB rfl ?_));exact zAE)|(apply zAG;exact rfl;(first|with_reducible exact zAS|with_reducible exact zAx|with_reducible exact zAw|with_reducible exact zA0|with_reducible exact zAf|with_reducible exact zA1|with_reducible exact zAg);exact rfl;exact rfl)|(apply zDt;exact rfl;exact rfl;first|assumption|omega)|(apply zAn;exact rfl;exact rfl;first|assumption|omega)|(apply zAs;exact rfl;exact rfl;first|assumption|omega)|apply ay (hd:=rfl)|exact zAJ rfl|exact zAD rfl|(apply zBL;exact rfl;exact rfl)|exact zAc rfl rfl|exact zAi rfl|(apply zAC;exact rfl;(with_reducible first|exact zAu|exact zBy))|(apply k1 (hd:=rfl);exact rfl;exact rfl)|(apply zAL;exact rfl)|(apply zAM;exact rfl)|apply zAO|refine zAr (by kernel_rfl) (by kernel_rfl) ?_|apply eb_n
   all_goals first|omega|skip
   all_goals exact zBN rfl
end Go.Proofs.YtcagoomibpcdlaaGreatDoor
