/- Parts of the proof. -/
import Derived.Test.YtcagoomibpcdlaaGreatDoorMBN
set_option maxHeartbeats 16000000
namespace Go.Proofs.YtcagoomibpcdlaaGreatDoor
open _root_.Go.Proofs.Tryz
open Go.Sx Go.Vm
attribute [local irreducible] zAN Program.underlying Ylds zA9 alex zB3 zBf awp zAi zCC zCB zAU zBl zAz zDt zBq zBj zBB zBr zB2 zB8 zD7 zBi zBd zBg JFit
theorem do_1(m:Img)(c c':CK){k a b:Int}{s:CS}(hd:DoAt m c k ⟨1,a,b⟩ s)(hS:zEH m c c' s true (flo s) (0) (1) (decide (a<(m.pool.length:Int))) (.d (zCK [k+1]))): DoTo m c c' k:=by
 refine zDA func74 rfl ntmps74 results74 rfl ?_
 intro wb St0 X fx
 refine zCu m c hd wb St0 X fx _ ?_
 obtain⟨hk0,hat0,hst0,hbig,hlen,hh,htr,ha,hb,_⟩:=hd
 have hr0:=(qAA.1 hst0).1
 have hk1:k<(c.at_.length:Int):=by omega
 dsimp only at ha hb
 clear hat0 hst0
 conv=>arg 2;whnf
 by_cases q0:a<(m.pool.length:Int)
 ·skip
  rw[show (decide (a<(m.pool.length:Int)))=true from by first|(rw[decide_eq_true q0];done)|(rw[decide_eq_true q0];rfl)]at hS
  repeat' first|apply en_n|apply zAH|apply zAA|apply zAD|apply w0|(refine zCI zA7 zBJ zCL rfl rfl (zAY rfl zAM) rfl)|(refine zBv (by kernel_rfl) ?_;refine zCs [0,1,2,3,6,7,4] [4,5,6] rfl rfl zAo (hS) rfl (SArgs_all rfl) rfl rfl (by decide) rfl rfl rfl rfl rfl rfl ?_)|exact zAK rfl|(apply zAE;exact rfl;(first|with_reducible exact zAP|with_reducible exact zAw|with_reducible exact zAu|with_reducible exact zAv|with_reducible exact zAd|with_reducible exact zA0|with_reducible exact zAc);exact rfl;exact rfl)|exact zC9 rfl rfl|exact zAk rfl rfl|exact zAm rfl rfl|apply ay (hd:=rfl)|exact zAF rfl|exact zAB rfl|exact zBI rfl zDz|refine zBE rfl rfl ?_|exact zAf rfl|(apply zAC;exact rfl;(with_reducible first|exact zCM|exact zAp|exact zDJ))|refine zAI rfl ?_|refine zAJ rfl ?_|apply zAL|refine zAj (by kernel_rfl) (by kernel_rfl) ?_|apply eb_n
  all_goals first|omega|skip
  all_goals exact zBL rfl
 ·skip
  rw[show (decide (a<(m.pool.length:Int)))=false from by first|(rw[decide_eq_false q0];done)|(rw[decide_eq_false q0];rfl)]at hS
  repeat' first|apply en_n|apply zAH|apply zAA|apply zAD|apply w0|(refine zCI zA7 zBJ zCL rfl rfl (zAY rfl zAM) rfl)|(refine zBv (by kernel_rfl) ?_;refine zCs [0,1,2,3,6,7,4] [4,5,6] rfl rfl zAo (hS) rfl (SArgs_all rfl) rfl rfl (by decide) rfl rfl rfl rfl rfl rfl ?_)|exact zAK rfl|(apply zAE;exact rfl;(first|with_reducible exact zAP|with_reducible exact zAw|with_reducible exact zAu|with_reducible exact zAv|with_reducible exact zAd|with_reducible exact zA0|with_reducible exact zAc);exact rfl;exact rfl)|exact zCm rfl rfl|exact zAk rfl rfl|exact zAm rfl rfl|apply ay (hd:=rfl)|exact zAF rfl|exact zAB rfl|exact zBI rfl zDz|refine zBE rfl rfl ?_|exact zAf rfl|(apply zAC;exact rfl;(with_reducible first|exact zCM|exact zAp|exact zDJ))|refine zAI rfl ?_|refine zAJ rfl ?_|apply zAL|refine zAj (by kernel_rfl) (by kernel_rfl) ?_|apply eb_n
  all_goals first|omega|skip
  all_goals exact zBL rfl
theorem do_3(m:Img)(c c':CK){k a b:Int}{s:CS}(hd:DoAt m c k ⟨3,a,b⟩ s)(hgi:0<=getI c.has s.of/\getI c.has s.of<=2000000)(hS:zEH m c c' s true (flo s) (0) (1) (!decide (s.of = -1)&&decide (a<getI c.has s.of-1)) (.d (zCK [k+1]))): DoTo m c c' k:=by
 refine zDA func74 rfl ntmps74 results74 rfl ?_
 intro wb St0 X fx
 refine zCu m c hd wb St0 X fx _ ?_
 obtain⟨hk0,hat0,hst0,hbig,hlen,hh,htr,ha,hb,_⟩:=hd
 have hr0:=(qAA.1 hst0).1
 have hk1:k<(c.at_.length:Int):=by omega
 dsimp only at ha hb
 clear hat0 hst0
 conv=>arg 2;whnf
 by_cases q0:s.of = -1
 ·skip
  by_cases q1:a<getI c.has s.of-1
  ·skip
   rw[show (!decide (s.of = -1)&&decide (a<getI c.has s.of-1))=false from by first|(rw[decide_eq_true q0,decide_eq_true q1];done)|(rw[decide_eq_true q0,decide_eq_true q1];rfl)]at hS
   repeat' first|apply en_n|apply zAH|apply zAA|apply zAD|apply w0|(refine zHQ rfl rfl rfl)|(refine zCI zA7 zBJ zCL rfl rfl (zAY rfl zAM) rfl)|(refine zBv (by kernel_rfl) ?_;refine zCs [0,1,2,3,6,7,4] [4,5,6] rfl rfl zAo (hS) rfl (SArgs_all rfl) rfl rfl (by decide) rfl rfl rfl rfl rfl rfl ?_)|exact zAK rfl|(apply zAE;exact rfl;(first|with_reducible exact zAP|with_reducible exact zAw|with_reducible exact zAu|with_reducible exact zAv|with_reducible exact zAd|with_reducible exact zA0|with_reducible exact zAc);exact rfl;exact rfl)|exact zC9 rfl rfl|exact zAk rfl rfl|exact zAm rfl rfl|apply ay (hd:=rfl)|exact zAF rfl|exact zAB rfl|refine zBE rfl rfl ?_|refine zDb rfl rfl ?_|exact zAa rfl rfl|exact zAX rfl rfl|exact zAf rfl|(apply zAC;exact rfl;(with_reducible first|exact zAp|exact zC5|exact zEI))|refine w1 rfl rfl ?_|(apply k1 (hd:=rfl);exact rfl;exact rfl)|(apply gD;exact rfl;exact rfl;all_goals intro hb)|refine zAI rfl ?_|refine zAJ rfl ?_|apply zAL|refine zAj (by kernel_rfl) (by kernel_rfl) ?_|apply eb_n
   all_goals first|omega|skip
   all_goals exact zBL rfl
  ·skip
   rw[show (!decide (s.of = -1)&&decide (a<getI c.has s.of-1))=false from by first|(rw[decide_eq_true q0,decide_eq_false q1];done)|(rw[decide_eq_true q0,decide_eq_false q1];rfl)]at hS
   repeat' first|apply en_n|apply zAH|apply zAA|apply zAD|apply w0|(refine zHQ rfl rfl rfl)|(refine zCI zA7 zBJ zCL rfl rfl (zAY rfl zAM) rfl)|(refine zBv (by kernel_rfl) ?_;refine zCs [0,1,2,3,6,7,4] [4,5,6] rfl rfl zAo (hS) rfl (SArgs_all rfl) rfl rfl (by decide) rfl rfl rfl rfl rfl rfl ?_)|exact zAK rfl|(apply zAE;exact rfl;(first|with_reducible exact zAP|with_reducible exact zAw|with_reducible exact zAu|with_reducible exact zAv|with_reducible exact zAd|with_reducible exact zA0|with_reducible exact zAc);exact rfl;exact rfl)|exact zC9 rfl rfl|exact zAk rfl rfl|exact zAm rfl rfl|apply ay (hd:=rfl)|exact zAF rfl|exact zAB rfl|refine zBE rfl rfl ?_|refine zDb rfl rfl ?_|exact zAa rfl rfl|exact zAX rfl rfl|exact zAf rfl|(apply zAC;exact rfl;(with_reducible first|exact zAp|exact zC5|exact zEI))|refine w1 rfl rfl ?_|(apply k1 (hd:=rfl);exact rfl;exact rfl)|(apply gD;exact rfl;exact rfl;all_goals intro hb)|refine zAI rfl ?_|refine zAJ rfl ?_|apply zAL|refine zAj (by kernel_rfl) (by kernel_rfl) ?_|apply eb_n
   all_goals first|omega|skip
   all_goals exact zBL rfl
 ·skip
  by_cases q1:a<getI c.has s.of-1
  ·skip
   rw[show (!decide (s.of = -1)&&decide (a<getI c.has s.of-1))=true from by first|(rw[decide_eq_false q0,decide_eq_true q1];done)|(rw[decide_eq_false q0,decide_eq_true q1];rfl)]at hS
   repeat' first|apply en_n|apply zAH|apply zAA|apply zAD|apply w0|(refine zHQ rfl rfl rfl)|(refine zCI zA7 zBJ zCL rfl rfl (zAY rfl zAM) rfl)|(refine zBv (by kernel_rfl) ?_;refine zCs [0,1,2,3,6,7,4] [4,5,6] rfl rfl zAo (hS) rfl (SArgs_all rfl) rfl rfl (by decide) rfl rfl rfl rfl rfl rfl ?_)|exact zAK rfl|(apply zAE;exact rfl;(first|with_reducible exact zAP|with_reducible exact zAw|with_reducible exact zAu|with_reducible exact zAv|with_reducible exact zAd|with_reducible exact zA0|with_reducible exact zAc);exact rfl;exact rfl)|exact zC9 rfl rfl|exact zAk rfl rfl|exact zAm rfl rfl|apply ay (hd:=rfl)|exact zAF rfl|exact zAB rfl|refine zBE rfl rfl ?_|refine zDb rfl rfl ?_|exact zAa rfl rfl|exact zAX rfl rfl|exact zAf rfl|(apply zAC;exact rfl;(with_reducible first|exact zAp|exact zC5|exact zEI))|refine w1 rfl rfl ?_|(apply k1 (hd:=rfl);exact rfl;exact rfl)|(apply gD;exact rfl;exact rfl;all_goals intro hb)|refine zAI rfl ?_|refine zAJ rfl ?_|apply zAL|refine zAj (by kernel_rfl) (by kernel_rfl) ?_|apply eb_n
   all_goals first|omega|skip
   all_goals exact zBL rfl
  ·skip
   rw[show (!decide (s.of = -1)&&decide (a<getI c.has s.of-1))=false from by first|(rw[decide_eq_false q0,decide_eq_false q1];done)|(rw[decide_eq_false q0,decide_eq_false q1];rfl)]at hS
   repeat' first|apply en_n|apply zAH|apply zAA|apply zAD|apply w0|(refine zHQ rfl rfl rfl)|(refine zCI zA7 zBJ zCL rfl rfl (zAY rfl zAM) rfl)|(refine zBv (by kernel_rfl) ?_;refine zCs [0,1,2,3,6,7,4] [4,5,6] rfl rfl zAo (hS) rfl (SArgs_all rfl) rfl rfl (by decide) rfl rfl rfl rfl rfl rfl ?_)|exact zAK rfl|(apply zAE;exact rfl;(first|with_reducible exact zAP|with_reducible exact zAw|with_reducible exact zAu|with_reducible exact zAv|with_reducible exact zAd|with_reducible exact zA0|with_reducible exact zAc);exact rfl;exact rfl)|exact zCm rfl rfl|exact zAk rfl rfl|exact zAm rfl rfl|apply ay (hd:=rfl)|exact zAF rfl|exact zAB rfl|refine zBE rfl rfl ?_|refine zDb rfl rfl ?_|exact zAa rfl rfl|exact zAX rfl rfl|exact zAf rfl|(apply zAC;exact rfl;(with_reducible first|exact zAp|exact zC5|exact zEI))|refine w1 rfl rfl ?_|(apply k1 (hd:=rfl);exact rfl;exact rfl)|(apply gD;exact rfl;exact rfl;all_goals intro hb)|refine zAI rfl ?_|refine zAJ rfl ?_|apply zAL|refine zAj (by kernel_rfl) (by kernel_rfl) ?_|apply eb_n
   all_goals first|omega|skip
   all_goals exact zBL rfl
theorem zZ9(m:Img)(c c':CK){k a b:Int}{s:CS}(hd:DoAt m c k ⟨10,a,b⟩ s){cb:Bool}(hQ:conQ m c a cb)(hS:zEH m c c' s true (flo s) (b) (1) (cb&&decide (b<=8)) (.d (zCK [k+1]))): DoTo m c c' k:=by
 refine zDA func74 rfl ntmps74 results74 rfl ?_
 intro wb St0 X fx
 refine zCu m c hd wb St0 X fx _ ?_
 obtain⟨hk0,hat0,hst0,hbig,hlen,hh,htr,ha,hb,_⟩:=hd
 have hr0:=(qAA.1 hst0).1
 have hk1:k<(c.at_.length:Int):=by omega
 dsimp only at ha hb
 clear hat0 hst0
 conv=>arg 2;whnf
 cases cb
 ·skip
  by_cases q1:b<=8
  ·skip
   rw[show (false&&decide (b<=8))=false from by first|(rw[decide_eq_true q1];done)|(rw[decide_eq_true q1];rfl)]at hS
   repeat' first|apply en_n|apply zAH|apply zAA|apply zAD|apply w0|(refine zAW ids4 [] rfl rfl zFq (hQ) rfl (SArgs_all rfl) rfl (by decide) rfl rfl rfl rfl)|(refine zCI zA7 zBJ zCL rfl rfl (zAY rfl zAM) rfl)|(refine zBv (by kernel_rfl) ?_;refine zCs [0,1,2,3,6,7,4] [4,5,6] rfl rfl zAo (hS) rfl (SArgs_all rfl) rfl rfl (by decide) rfl rfl rfl rfl rfl rfl ?_)|(apply zAE;exact rfl;(first|with_reducible exact zAP|with_reducible exact zAw|with_reducible exact zAu|with_reducible exact zAv|with_reducible exact zAd|with_reducible exact zA0|with_reducible exact zAc);exact rfl;exact rfl)|exact zAk rfl rfl|exact zAm rfl rfl|apply ay (hd:=rfl)|exact zAF rfl|exact zAB rfl|refine zBE rfl rfl ?_|exact zAX rfl rfl|exact zAf rfl|(apply zAC;exact rfl;(with_reducible first|exact zAp|exact zCY))|(apply k1 (hd:=rfl);exact rfl;exact rfl)|refine zAI rfl ?_|refine zAJ rfl ?_|apply zAL|refine zAj (by kernel_rfl) (by kernel_rfl) ?_|apply eb_n
   all_goals first|omega|skip
   all_goals exact zBL rfl
  ·skip
   rw[show (false&&decide (b<=8))=false from by first|(rw[decide_eq_false q1];done)|(rw[decide_eq_false q1];rfl)]at hS
   repeat' first|apply en_n|apply zAH|apply zAA|apply zAD|apply w0|(refine zAW ids4 [] rfl rfl zFq (hQ) rfl (SArgs_all rfl) rfl (by decide) rfl rfl rfl rfl)|(refine zCI zA7 zBJ zCL rfl rfl (zAY rfl zAM) rfl)|(refine zBv (by kernel_rfl) ?_;refine zCs [0,1,2,3,6,7,4] [4,5,6] rfl rfl zAo (hS) rfl (SArgs_all rfl) rfl rfl (by decide) rfl rfl rfl rfl rfl rfl ?_)|(apply zAE;exact rfl;(first|with_reducible exact zAP|with_reducible exact zAw|with_reducible exact zAu|with_reducible exact zAv|with_reducible exact zAd|with_reducible exact zA0|with_reducible exact zAc);exact rfl;exact rfl)|exact zAk rfl rfl|exact zAm rfl rfl|apply ay (hd:=rfl)|exact zAF rfl|exact zAB rfl|refine zBE rfl rfl ?_|exact zAX rfl rfl|exact zAf rfl|(apply zAC;exact rfl;(with_reducible first|exact zAp|exact zCY))|(apply k1 (hd:=rfl);exact rfl;exact rfl)|refine zAI rfl ?_|refine zAJ rfl ?_|apply zAL|refine zAj (by kernel_rfl) (by kernel_rfl) ?_|apply eb_n
   all_goals first|omega|skip
   all_goals exact zBL rfl
 ·skip
  by_cases q1:b<=8
  ·skip
   rw[show (true&&decide (b<=8))=true from by first|(rw[decide_eq_true q1];done)|(rw[decide_eq_true q1];rfl)]at hS
   repeat' first|apply en_n|apply zAH|apply zAA|apply zAD|apply w0|(refine zAW ids4 [] rfl rfl zFq (hQ) rfl (SArgs_all rfl) rfl (by decide) rfl rfl rfl rfl)|(refine zCI zA7 zBJ zCL rfl rfl (zAY rfl zAM) rfl)|(refine zBv (by kernel_rfl) ?_;refine zCs [0,1,2,3,6,7,4] [4,5,6] rfl rfl zAo (hS) rfl (SArgs_all rfl) rfl rfl (by decide) rfl rfl rfl rfl rfl rfl ?_)|(apply zAE;exact rfl;(first|with_reducible exact zAP|with_reducible exact zAw|with_reducible exact zAu|with_reducible exact zAv|with_reducible exact zAd|with_reducible exact zA0|with_reducible exact zAc);exact rfl;exact rfl)|exact zOi rfl rfl|exact zAk rfl rfl|exact zAm rfl rfl|apply ay (hd:=rfl)|exact zAF rfl|exact zAB rfl|refine zBE rfl rfl ?_|exact zAa rfl rfl|exact zAf rfl|(apply zAC;exact rfl;(with_reducible first|exact zAp|exact zCY))|refine w1 rfl rfl ?_|refine zAI rfl ?_|refine zAJ rfl ?_|apply zAL|refine zAj (by kernel_rfl) (by kernel_rfl) ?_|apply eb_n
   all_goals first|omega|skip
   all_goals exact zBL rfl
  ·skip
   rw[show (true&&decide (b<=8))=false from by first|(rw[decide_eq_false q1];done)|(rw[decide_eq_false q1];rfl)]at hS
   repeat' first|apply en_n|apply zAH|apply zAA|apply zAD|apply w0|(refine zAW ids4 [] rfl rfl zFq (hQ) rfl (SArgs_all rfl) rfl (by decide) rfl rfl rfl rfl)|(refine zCI zA7 zBJ zCL rfl rfl (zAY rfl zAM) rfl)|(refine zBv (by kernel_rfl) ?_;refine zCs [0,1,2,3,6,7,4] [4,5,6] rfl rfl zAo (hS) rfl (SArgs_all rfl) rfl rfl (by decide) rfl rfl rfl rfl rfl rfl ?_)|(apply zAE;exact rfl;(first|with_reducible exact zAP|with_reducible exact zAw|with_reducible exact zAu|with_reducible exact zAv|with_reducible exact zAd|with_reducible exact zA0|with_reducible exact zAc);exact rfl;exact rfl)|exact zMV rfl rfl|exact zAk rfl rfl|exact zAm rfl rfl|apply ay (hd:=rfl)|exact zAF rfl|exact zAB rfl|refine zBE rfl rfl ?_|exact zAa rfl rfl|exact zAf rfl|(apply zAC;exact rfl;(with_reducible first|exact zAp|exact zCY))|refine w1 rfl rfl ?_|refine zAI rfl ?_|refine zAJ rfl ?_|apply zAL|refine zAj (by kernel_rfl) (by kernel_rfl) ?_|apply eb_n
   all_goals first|omega|skip
   all_goals exact zBL rfl
theorem zZ7(m:Img)(c c':CK){k a b:Int}{s:CS}(hd:DoAt m c k ⟨12,a,b⟩ s)(hS:zEH m c c' s true (flo s) (takes a) (1) (decide (takes a>0)) (.d (zCK [k+1]))): DoTo m c c' k:=by
 refine zDA func74 rfl ntmps74 results74 rfl ?_
 intro wb St0 X fx
 refine zCu m c hd wb St0 X fx _ ?_
 obtain⟨hk0,hat0,hst0,hbig,hlen,hh,htr,ha,hb,_⟩:=hd
 have hr0:=(qAA.1 hst0).1
 have hk1:k<(c.at_.length:Int):=by omega
 dsimp only at ha hb
 clear hat0 hst0
 conv=>arg 2;whnf
 have hTk:=zEx a
 by_cases q0:takes a>0
 ·skip
  rw[show (decide (takes a>0))=true from by first|(rw[decide_eq_true q0];done)|(rw[decide_eq_true q0];rfl)]at hS
  repeat' first|apply en_n|apply zAH|apply zAA|apply zAD|apply w0|(refine zAb zCG hTk (zAY rfl zAM))|(refine zCI zA7 zBJ zCL rfl rfl (zAY rfl zAM) rfl)|(refine zBv (by kernel_rfl) ?_;refine zCs [0,1,2,3,6,7,4] [4,5,6] rfl rfl zAo (hS) rfl (SArgs_all rfl) rfl rfl (by decide) rfl rfl rfl rfl rfl rfl ?_)|(apply zAE;exact rfl;(first|with_reducible exact zAP|with_reducible exact zAw|with_reducible exact zAu|with_reducible exact zAv|with_reducible exact zAd|with_reducible exact zA0|with_reducible exact zAc);exact rfl;exact rfl)|exact zEk rfl rfl|exact zAk rfl rfl|exact zAm rfl rfl|apply ay (hd:=rfl)|exact zAF rfl|exact zAB rfl|refine zBE rfl rfl ?_|exact zAf rfl|exact zAC rfl zAp|refine zAI rfl ?_|refine zAJ rfl ?_|apply zAL|refine zAj (by kernel_rfl) (by kernel_rfl) ?_|apply eb_n
  all_goals first|omega|skip
  all_goals exact zBL rfl
 ·skip
  rw[show (decide (takes a>0))=false from by first|(rw[decide_eq_false q0];done)|(rw[decide_eq_false q0];rfl)]at hS
  repeat' first|apply en_n|apply zAH|apply zAA|apply zAD|apply w0|(refine zAb zCG hTk (zAY rfl zAM))|(refine zCI zA7 zBJ zCL rfl rfl (zAY rfl zAM) rfl)|(refine zBv (by kernel_rfl) ?_;refine zCs [0,1,2,3,6,7,4] [4,5,6] rfl rfl zAo (hS) rfl (SArgs_all rfl) rfl rfl (by decide) rfl rfl rfl rfl rfl rfl ?_)|(apply zAE;exact rfl;(first|with_reducible exact zAP|with_reducible exact zAw|with_reducible exact zAu|with_reducible exact zAv|with_reducible exact zAd|with_reducible exact zA0|with_reducible exact zAc);exact rfl;exact rfl)|exact zDs rfl rfl|exact zAk rfl rfl|exact zAm rfl rfl|apply ay (hd:=rfl)|exact zAF rfl|exact zAB rfl|refine zBE rfl rfl ?_|exact zAf rfl|exact zAC rfl zAp|refine zAI rfl ?_|refine zAJ rfl ?_|apply zAL|refine zAj (by kernel_rfl) (by kernel_rfl) ?_|apply eb_n
  all_goals first|omega|skip
  all_goals exact zBL rfl
theorem zZ0(m:Img)(c c':CK){k a b:Int}{s:CS}(hd:DoAt m c k ⟨19,a,b⟩ s){cb:Bool}(hQ:conQ m c b cb)(hS:zEH m c c' s true (flo s) (0) (0) (decide (s.height>0)&&cb) (.d (zCK [a,k+1]))): DoTo m c c' k:=by
 refine zDA func74 rfl ntmps74 results74 rfl ?_
 intro wb St0 X fx
 refine zCu m c hd wb St0 X fx _ ?_
 obtain⟨hk0,hat0,hst0,hbig,hlen,hh,htr,ha,hb,_⟩:=hd
 have hr0:=(qAA.1 hst0).1
 have hk1:k<(c.at_.length:Int):=by omega
 dsimp only at ha hb
 clear hat0 hst0
 conv=>arg 2;whnf
 by_cases q0:s.height>0
 ·skip
  cases cb
  ·skip
   rw[show (decide (s.height>0)&&false)=false from by first|(rw[decide_eq_true q0];done)|(rw[decide_eq_true q0];rfl)]at hS
   repeat' first|apply en_n|apply zAH|apply zAA|apply zAD|apply w0|(refine zAW ids4 [] rfl rfl zFq (hQ) rfl (SArgs_all rfl) rfl (by decide) rfl rfl rfl rfl)|(refine zFX zA7 zBJ zCL rfl rfl (zAY rfl (zAY rfl zAM)) rfl)|(refine zBv (by kernel_rfl) ?_;refine zCs [0,1,2,3,6,7,4] [4,5,6] rfl rfl zAo (hS) rfl (SArgs_all rfl) rfl rfl (by decide) rfl rfl rfl rfl rfl rfl ?_)|(apply zAE;exact rfl;(first|with_reducible exact zAP|with_reducible exact zAw|with_reducible exact zAu|with_reducible exact zAv|with_reducible exact zAd|with_reducible exact zA0|with_reducible exact zAc);exact rfl;exact rfl)|exact zEk rfl rfl|exact zAk rfl rfl|exact zAm rfl rfl|apply ay (hd:=rfl)|exact zAF rfl|exact zAB rfl|refine zBE rfl rfl ?_|exact zAa rfl rfl|exact zAf rfl|(apply zAC;exact rfl;(with_reducible first|exact zAp|exact zCY|exact zB0))|refine w1 rfl rfl ?_|refine zAI rfl ?_|refine zAJ rfl ?_|apply zAL|refine zAj (by kernel_rfl) (by kernel_rfl) ?_|apply eb_n
   all_goals first|omega|skip
   all_goals exact zBL rfl
  ·skip
   rw[show (decide (s.height>0)&&true)=true from by first|(rw[decide_eq_true q0];done)|(rw[decide_eq_true q0];rfl)]at hS
   repeat' first|apply en_n|apply zAH|apply zAA|apply zAD|apply w0|(refine zAW ids4 [] rfl rfl zFq (hQ) rfl (SArgs_all rfl) rfl (by decide) rfl rfl rfl rfl)|(refine zFX zA7 zBJ zCL rfl rfl (zAY rfl (zAY rfl zAM)) rfl)|(refine zBv (by kernel_rfl) ?_;refine zCs [0,1,2,3,6,7,4] [4,5,6] rfl rfl zAo (hS) rfl (SArgs_all rfl) rfl rfl (by decide) rfl rfl rfl rfl rfl rfl ?_)|(apply zAE;exact rfl;(first|with_reducible exact zAP|with_reducible exact zAw|with_reducible exact zAu|with_reducible exact zAv|with_reducible exact zAd|with_reducible exact zA0|with_reducible exact zAc);exact rfl;exact rfl)|exact zEk rfl rfl|exact zAk rfl rfl|exact zAm rfl rfl|apply ay (hd:=rfl)|exact zAF rfl|exact zAB rfl|refine zBE rfl rfl ?_|exact zAa rfl rfl|exact zAf rfl|(apply zAC;exact rfl;(with_reducible first|exact zAp|exact zCY|exact zB0))|refine w1 rfl rfl ?_|refine zAI rfl ?_|refine zAJ rfl ?_|apply zAL|refine zAj (by kernel_rfl) (by kernel_rfl) ?_|apply eb_n
   all_goals first|omega|skip
   all_goals exact zBL rfl
 ·skip
  cases cb
  ·skip
   rw[show (decide (s.height>0)&&false)=false from by first|(rw[decide_eq_false q0];done)|(rw[decide_eq_false q0];rfl)]at hS
   repeat' first|apply en_n|apply zAH|apply zAA|apply zAD|apply w0|(refine zFX zA7 zBJ zCL rfl rfl (zAY rfl (zAY rfl zAM)) rfl)|(refine zBv (by kernel_rfl) ?_;refine zCs [0,1,2,3,6,7,4] [4,5,6] rfl rfl zAo (hS) rfl (SArgs_all rfl) rfl rfl (by decide) rfl rfl rfl rfl rfl rfl ?_)|(apply zAE;exact rfl;(first|with_reducible exact zAP|with_reducible exact zAw|with_reducible exact zAu|with_reducible exact zAv|with_reducible exact zAd|with_reducible exact zA0|with_reducible exact zAc);exact rfl;exact rfl)|exact zDs rfl rfl|exact zAk rfl rfl|exact zAm rfl rfl|apply ay (hd:=rfl)|exact zAF rfl|exact zAB rfl|refine zBE rfl rfl ?_|exact zAX rfl rfl|exact zAf rfl|(apply zAC;exact rfl;(with_reducible first|exact zAp|exact zB0))|(apply k1 (hd:=rfl);exact rfl;exact rfl)|refine zAI rfl ?_|refine zAJ rfl ?_|apply zAL|refine zAj (by kernel_rfl) (by kernel_rfl) ?_|apply eb_n
   all_goals first|omega|skip
   all_goals exact zBL rfl
  ·skip
   rw[show (decide (s.height>0)&&true)=false from by first|(rw[decide_eq_false q0];done)|(rw[decide_eq_false q0];rfl)]at hS
   repeat' first|apply en_n|apply zAH|apply zAA|apply zAD|apply w0|(refine zFX zA7 zBJ zCL rfl rfl (zAY rfl (zAY rfl zAM)) rfl)|(refine zBv (by kernel_rfl) ?_;refine zCs [0,1,2,3,6,7,4] [4,5,6] rfl rfl zAo (hS) rfl (SArgs_all rfl) rfl rfl (by decide) rfl rfl rfl rfl rfl rfl ?_)|(apply zAE;exact rfl;(first|with_reducible exact zAP|with_reducible exact zAw|with_reducible exact zAu|with_reducible exact zAv|with_reducible exact zAd|with_reducible exact zA0|with_reducible exact zAc);exact rfl;exact rfl)|exact zDs rfl rfl|exact zAk rfl rfl|exact zAm rfl rfl|apply ay (hd:=rfl)|exact zAF rfl|exact zAB rfl|refine zBE rfl rfl ?_|exact zAX rfl rfl|exact zAf rfl|(apply zAC;exact rfl;(with_reducible first|exact zAp|exact zB0))|(apply k1 (hd:=rfl);exact rfl;exact rfl)|refine zAI rfl ?_|refine zAJ rfl ?_|apply zAL|refine zAj (by kernel_rfl) (by kernel_rfl) ?_|apply eb_n
   all_goals first|omega|skip
   all_goals exact zBL rfl
theorem zZz(m:Img)(c c':CK){k a b:Int}{s:CS}(hd:DoAt m c k ⟨20,a,b⟩ s){cb:Bool}(hQ:numQ m c b cb)(hS:zEH m c c' s true (flo s) (0) (0) (decide (s.height>0)&&cb) (.d (zCK [a,k+1]))): DoTo m c c' k:=by
 refine zDA func74 rfl ntmps74 results74 rfl ?_
 intro wb St0 X fx
 refine zCu m c hd wb St0 X fx _ ?_
 obtain⟨hk0,hat0,hst0,hbig,hlen,hh,htr,ha,hb,_⟩:=hd
 have hr0:=(qAA.1 hst0).1
 have hk1:k<(c.at_.length:Int):=by omega
 dsimp only at ha hb
 clear hat0 hst0
 conv=>arg 2;whnf
 by_cases q0:s.height>0
 ·skip
  cases cb
  ·skip
   rw[show (decide (s.height>0)&&false)=false from by first|(rw[decide_eq_true q0];done)|(rw[decide_eq_true q0];rfl)]at hS
   repeat' first|apply en_n|apply zAH|apply zAA|apply zAD|apply w0|(refine zAW ids4 [] rfl rfl zIK (hQ) rfl (SArgs_all rfl) rfl (by decide) rfl rfl rfl rfl)|(refine zFX zA7 zBJ zCL rfl rfl (zAY rfl (zAY rfl zAM)) rfl)|(refine zBv (by kernel_rfl) ?_;refine zCs [0,1,2,3,6,7,4] [4,5,6] rfl rfl zAo (hS) rfl (SArgs_all rfl) rfl rfl (by decide) rfl rfl rfl rfl rfl rfl ?_)|(apply zAE;exact rfl;(first|with_reducible exact zAP|with_reducible exact zAw|with_reducible exact zAu|with_reducible exact zAv|with_reducible exact zAd|with_reducible exact zA0|with_reducible exact zAc);exact rfl;exact rfl)|exact zEk rfl rfl|exact zAk rfl rfl|exact zAm rfl rfl|apply ay (hd:=rfl)|exact zAF rfl|exact zAB rfl|refine zBE rfl rfl ?_|exact zAa rfl rfl|exact zAf rfl|(apply zAC;exact rfl;(with_reducible first|exact zAp|exact zCY|exact zB0))|refine w1 rfl rfl ?_|refine zAI rfl ?_|refine zAJ rfl ?_|apply zAL|refine zAj (by kernel_rfl) (by kernel_rfl) ?_|apply eb_n
   all_goals first|omega|skip
   all_goals exact zBL rfl
  ·skip
   rw[show (decide (s.height>0)&&true)=true from by first|(rw[decide_eq_true q0];done)|(rw[decide_eq_true q0];rfl)]at hS
   repeat' first|apply en_n|apply zAH|apply zAA|apply zAD|apply w0|(refine zAW ids4 [] rfl rfl zIK (hQ) rfl (SArgs_all rfl) rfl (by decide) rfl rfl rfl rfl)|(refine zFX zA7 zBJ zCL rfl rfl (zAY rfl (zAY rfl zAM)) rfl)|(refine zBv (by kernel_rfl) ?_;refine zCs [0,1,2,3,6,7,4] [4,5,6] rfl rfl zAo (hS) rfl (SArgs_all rfl) rfl rfl (by decide) rfl rfl rfl rfl rfl rfl ?_)|(apply zAE;exact rfl;(first|with_reducible exact zAP|with_reducible exact zAw|with_reducible exact zAu|with_reducible exact zAv|with_reducible exact zAd|with_reducible exact zA0|with_reducible exact zAc);exact rfl;exact rfl)|exact zEk rfl rfl|exact zAk rfl rfl|exact zAm rfl rfl|apply ay (hd:=rfl)|exact zAF rfl|exact zAB rfl|refine zBE rfl rfl ?_|exact zAa rfl rfl|exact zAf rfl|(apply zAC;exact rfl;(with_reducible first|exact zAp|exact zCY|exact zB0))|refine w1 rfl rfl ?_|refine zAI rfl ?_|refine zAJ rfl ?_|apply zAL|refine zAj (by kernel_rfl) (by kernel_rfl) ?_|apply eb_n
   all_goals first|omega|skip
   all_goals exact zBL rfl
 ·skip
  cases cb
  ·skip
   rw[show (decide (s.height>0)&&false)=false from by first|(rw[decide_eq_false q0];done)|(rw[decide_eq_false q0];rfl)]at hS
   repeat' first|apply en_n|apply zAH|apply zAA|apply zAD|apply w0|(refine zFX zA7 zBJ zCL rfl rfl (zAY rfl (zAY rfl zAM)) rfl)|(refine zBv (by kernel_rfl) ?_;refine zCs [0,1,2,3,6,7,4] [4,5,6] rfl rfl zAo (hS) rfl (SArgs_all rfl) rfl rfl (by decide) rfl rfl rfl rfl rfl rfl ?_)|(apply zAE;exact rfl;(first|with_reducible exact zAP|with_reducible exact zAw|with_reducible exact zAu|with_reducible exact zAv|with_reducible exact zAd|with_reducible exact zA0|with_reducible exact zAc);exact rfl;exact rfl)|exact zDs rfl rfl|exact zAk rfl rfl|exact zAm rfl rfl|apply ay (hd:=rfl)|exact zAF rfl|exact zAB rfl|refine zBE rfl rfl ?_|exact zAX rfl rfl|exact zAf rfl|(apply zAC;exact rfl;(with_reducible first|exact zAp|exact zB0))|(apply k1 (hd:=rfl);exact rfl;exact rfl)|refine zAI rfl ?_|refine zAJ rfl ?_|apply zAL|refine zAj (by kernel_rfl) (by kernel_rfl) ?_|apply eb_n
   all_goals first|omega|skip
   all_goals exact zBL rfl
  ·skip
   rw[show (decide (s.height>0)&&true)=false from by first|(rw[decide_eq_false q0];done)|(rw[decide_eq_false q0];rfl)]at hS
   repeat' first|apply en_n|apply zAH|apply zAA|apply zAD|apply w0|(refine zFX zA7 zBJ zCL rfl rfl (zAY rfl (zAY rfl zAM)) rfl)|(refine zBv (by kernel_rfl) ?_;refine zCs [0,1,2,3,6,7,4] [4,5,6] rfl rfl zAo (hS) rfl (SArgs_all rfl) rfl rfl (by decide) rfl rfl rfl rfl rfl rfl ?_)|(apply zAE;exact rfl;(first|with_reducible exact zAP|with_reducible exact zAw|with_reducible exact zAu|with_reducible exact zAv|with_reducible exact zAd|with_reducible exact zA0|with_reducible exact zAc);exact rfl;exact rfl)|exact zDs rfl rfl|exact zAk rfl rfl|exact zAm rfl rfl|apply ay (hd:=rfl)|exact zAF rfl|exact zAB rfl|refine zBE rfl rfl ?_|exact zAX rfl rfl|exact zAf rfl|(apply zAC;exact rfl;(with_reducible first|exact zAp|exact zB0))|(apply k1 (hd:=rfl);exact rfl;exact rfl)|refine zAI rfl ?_|refine zAJ rfl ?_|apply zAL|refine zAj (by kernel_rfl) (by kernel_rfl) ?_|apply eb_n
   all_goals first|omega|skip
   all_goals exact zBL rfl
end Go.Proofs.YtcagoomibpcdlaaGreatDoor
