/- Parts of the proof. -/
import Derived.Test.YtcagoomibpcdlaaGreatDoorMBI
set_option maxHeartbeats 16000000
namespace Go.Proofs.YtcagoomibpcdlaaGreatDoor
open _root_.Go.Proofs.Tryz
open Go.Sx Go.Vm
attribute [local irreducible] zAO Program.underlying Ylds zBE alex zB0 zBk awp zAg zB9 zB8 zAU zBj zA6 zDJ zBl zBn zBC zBq zBz zB7 zDQ zBm zBc zBe JFit
theorem do_1(m:Img)(c c':CK){k a b:Int}{s:CS}(hd:DoAt m c k ⟨1,a,b⟩ s)(hS:zEL m c c' s true (flo s) (0) (1) (decide (a<(m.pool.length:Int))) (.d (zBW [k+1]))): DoTo m c c' k:=by
 refine zDC func74 rfl ntmps74 results74 rfl ?_
 intro wb St0 X fx
 refine zCv m c hd wb St0 X fx _ ?_
 obtain⟨hk0,hat0,hst0,hbig,hlen,hh,htr,ha,hb,_⟩:=hd
 have hr0:=(qAA.1 hst0).1
 have hk1:k<(c.at_.length:Int):=by omega
 dsimp only at ha hb
 clear hat0 hst0
 conv=>arg 2;whnf
 by_cases q0:a<(m.pool.length:Int)
 ·skip
  rw[show (decide (a<(m.pool.length:Int)))=true from by first|(rw[decide_eq_true q0];done)|(rw[decide_eq_true q0];rfl)]at hS
  repeat' first|apply en_n|apply zAG|apply zAA|apply zAD|apply w0|(refine zCC zA0 zA5 zCL rfl rfl (zAY rfl zAM) rfl)|(refine zBs (by kernel_rfl) ?_;refine zCs [0,1,2,3,6,7,4] [4,5,6] rfl rfl zAq (hS) rfl (SArgs_all rfl) rfl rfl (by decide) rfl rfl rfl rfl rfl rfl ?_)|exact zAL rfl|(apply zAE;exact rfl;(first|with_reducible exact zAP|with_reducible exact zAt|with_reducible exact zA1|with_reducible exact zAx|with_reducible exact zAa|with_reducible exact zBB|with_reducible exact zAb);exact rfl;exact rfl)|exact zCf rfl rfl|exact zAi rfl rfl|exact zAn rfl rfl|apply ay (hd:=rfl)|exact zAF rfl|exact zAB rfl|exact zBD rfl zD4|refine zBG rfl rfl ?_|exact zAh rfl|(apply zAC;exact rfl;(with_reducible first|exact zB2|exact zAl|exact zDK))|refine zAI rfl ?_|refine zAJ rfl ?_|apply zAK|refine zAf (by kernel_rfl) (by kernel_rfl) ?_|apply eb_n
  all_goals first|omega|skip
  all_goals exact zBP rfl
 ·skip
  rw[show (decide (a<(m.pool.length:Int)))=false from by first|(rw[decide_eq_false q0];done)|(rw[decide_eq_false q0];rfl)]at hS
  repeat' first|apply en_n|apply zAG|apply zAA|apply zAD|apply w0|(refine zCC zA0 zA5 zCL rfl rfl (zAY rfl zAM) rfl)|(refine zBs (by kernel_rfl) ?_;refine zCs [0,1,2,3,6,7,4] [4,5,6] rfl rfl zAq (hS) rfl (SArgs_all rfl) rfl rfl (by decide) rfl rfl rfl rfl rfl rfl ?_)|exact zAL rfl|(apply zAE;exact rfl;(first|with_reducible exact zAP|with_reducible exact zAt|with_reducible exact zA1|with_reducible exact zAx|with_reducible exact zAa|with_reducible exact zBB|with_reducible exact zAb);exact rfl;exact rfl)|exact zCY rfl rfl|exact zAi rfl rfl|exact zAn rfl rfl|apply ay (hd:=rfl)|exact zAF rfl|exact zAB rfl|exact zBD rfl zD4|refine zBG rfl rfl ?_|exact zAh rfl|(apply zAC;exact rfl;(with_reducible first|exact zB2|exact zAl|exact zDK))|refine zAI rfl ?_|refine zAJ rfl ?_|apply zAK|refine zAf (by kernel_rfl) (by kernel_rfl) ?_|apply eb_n
  all_goals first|omega|skip
  all_goals exact zBP rfl
theorem do_3(m:Img)(c c':CK){k a b:Int}{s:CS}(hd:DoAt m c k ⟨3,a,b⟩ s)(hgi:0<=getI c.has s.of/\getI c.has s.of<=2000000)(hS:zEL m c c' s true (flo s) (0) (1) (!decide (s.of = -1)&&decide (a<getI c.has s.of-1)) (.d (zBW [k+1]))): DoTo m c c' k:=by
 refine zDC func74 rfl ntmps74 results74 rfl ?_
 intro wb St0 X fx
 refine zCv m c hd wb St0 X fx _ ?_
 obtain⟨hk0,hat0,hst0,hbig,hlen,hh,htr,ha,hb,_⟩:=hd
 have hr0:=(qAA.1 hst0).1
 have hk1:k<(c.at_.length:Int):=by omega
 dsimp only at ha hb
 clear hat0 hst0
 conv=>arg 2;whnf
 by_cases q0:s.of = -1
 ·skip
  by_cases q1:a<getI c.has s.of-1
  ·skip
   rw[show (!decide (s.of = -1)&&decide (a<getI c.has s.of-1))=false from by first|(rw[decide_eq_true q0,decide_eq_true q1];done)|(rw[decide_eq_true q0,decide_eq_true q1];rfl)]at hS
   repeat' first|apply en_n|apply zAG|apply zAA|apply zAD|apply w0|(refine zHb rfl rfl rfl)|(refine zCC zA0 zA5 zCL rfl rfl (zAY rfl zAM) rfl)|(refine zBs (by kernel_rfl) ?_;refine zCs [0,1,2,3,6,7,4] [4,5,6] rfl rfl zAq (hS) rfl (SArgs_all rfl) rfl rfl (by decide) rfl rfl rfl rfl rfl rfl ?_)|exact zAL rfl|(apply zAE;exact rfl;(first|with_reducible exact zAP|with_reducible exact zAt|with_reducible exact zA1|with_reducible exact zAx|with_reducible exact zAa|with_reducible exact zBB|with_reducible exact zAb);exact rfl;exact rfl)|exact zCf rfl rfl|exact zAi rfl rfl|exact zAn rfl rfl|apply ay (hd:=rfl)|exact zAF rfl|exact zAB rfl|refine zBG rfl rfl ?_|refine zC2 rfl rfl ?_|exact zAZ rfl rfl|exact zAV rfl rfl|exact zAh rfl|(apply zAC;exact rfl;(with_reducible first|exact zAl|exact zC7|exact zEN))|refine w1 rfl rfl ?_|refine k1 (hd:=rfl) rfl rfl ?_|(apply gD;exact rfl;exact rfl;all_goals intro hb)|refine zAI rfl ?_|refine zAJ rfl ?_|apply zAK|refine zAf (by kernel_rfl) (by kernel_rfl) ?_|apply eb_n
   all_goals first|omega|skip
   all_goals exact zBP rfl
  ·skip
   rw[show (!decide (s.of = -1)&&decide (a<getI c.has s.of-1))=false from by first|(rw[decide_eq_true q0,decide_eq_false q1];done)|(rw[decide_eq_true q0,decide_eq_false q1];rfl)]at hS
   repeat' first|apply en_n|apply zAG|apply zAA|apply zAD|apply w0|(refine zHb rfl rfl rfl)|(refine zCC zA0 zA5 zCL rfl rfl (zAY rfl zAM) rfl)|(refine zBs (by kernel_rfl) ?_;refine zCs [0,1,2,3,6,7,4] [4,5,6] rfl rfl zAq (hS) rfl (SArgs_all rfl) rfl rfl (by decide) rfl rfl rfl rfl rfl rfl ?_)|exact zAL rfl|(apply zAE;exact rfl;(first|with_reducible exact zAP|with_reducible exact zAt|with_reducible exact zA1|with_reducible exact zAx|with_reducible exact zAa|with_reducible exact zBB|with_reducible exact zAb);exact rfl;exact rfl)|exact zCf rfl rfl|exact zAi rfl rfl|exact zAn rfl rfl|apply ay (hd:=rfl)|exact zAF rfl|exact zAB rfl|refine zBG rfl rfl ?_|refine zC2 rfl rfl ?_|exact zAZ rfl rfl|exact zAV rfl rfl|exact zAh rfl|(apply zAC;exact rfl;(with_reducible first|exact zAl|exact zC7|exact zEN))|refine w1 rfl rfl ?_|refine k1 (hd:=rfl) rfl rfl ?_|(apply gD;exact rfl;exact rfl;all_goals intro hb)|refine zAI rfl ?_|refine zAJ rfl ?_|apply zAK|refine zAf (by kernel_rfl) (by kernel_rfl) ?_|apply eb_n
   all_goals first|omega|skip
   all_goals exact zBP rfl
 ·skip
  by_cases q1:a<getI c.has s.of-1
  ·skip
   rw[show (!decide (s.of = -1)&&decide (a<getI c.has s.of-1))=true from by first|(rw[decide_eq_false q0,decide_eq_true q1];done)|(rw[decide_eq_false q0,decide_eq_true q1];rfl)]at hS
   repeat' first|apply en_n|apply zAG|apply zAA|apply zAD|apply w0|(refine zHb rfl rfl rfl)|(refine zCC zA0 zA5 zCL rfl rfl (zAY rfl zAM) rfl)|(refine zBs (by kernel_rfl) ?_;refine zCs [0,1,2,3,6,7,4] [4,5,6] rfl rfl zAq (hS) rfl (SArgs_all rfl) rfl rfl (by decide) rfl rfl rfl rfl rfl rfl ?_)|exact zAL rfl|(apply zAE;exact rfl;(first|with_reducible exact zAP|with_reducible exact zAt|with_reducible exact zA1|with_reducible exact zAx|with_reducible exact zAa|with_reducible exact zBB|with_reducible exact zAb);exact rfl;exact rfl)|exact zCf rfl rfl|exact zAi rfl rfl|exact zAn rfl rfl|apply ay (hd:=rfl)|exact zAF rfl|exact zAB rfl|refine zBG rfl rfl ?_|refine zC2 rfl rfl ?_|exact zAZ rfl rfl|exact zAV rfl rfl|exact zAh rfl|(apply zAC;exact rfl;(with_reducible first|exact zAl|exact zC7|exact zEN))|refine w1 rfl rfl ?_|refine k1 (hd:=rfl) rfl rfl ?_|(apply gD;exact rfl;exact rfl;all_goals intro hb)|refine zAI rfl ?_|refine zAJ rfl ?_|apply zAK|refine zAf (by kernel_rfl) (by kernel_rfl) ?_|apply eb_n
   all_goals first|omega|skip
   all_goals exact zBP rfl
  ·skip
   rw[show (!decide (s.of = -1)&&decide (a<getI c.has s.of-1))=false from by first|(rw[decide_eq_false q0,decide_eq_false q1];done)|(rw[decide_eq_false q0,decide_eq_false q1];rfl)]at hS
   repeat' first|apply en_n|apply zAG|apply zAA|apply zAD|apply w0|(refine zHb rfl rfl rfl)|(refine zCC zA0 zA5 zCL rfl rfl (zAY rfl zAM) rfl)|(refine zBs (by kernel_rfl) ?_;refine zCs [0,1,2,3,6,7,4] [4,5,6] rfl rfl zAq (hS) rfl (SArgs_all rfl) rfl rfl (by decide) rfl rfl rfl rfl rfl rfl ?_)|exact zAL rfl|(apply zAE;exact rfl;(first|with_reducible exact zAP|with_reducible exact zAt|with_reducible exact zA1|with_reducible exact zAx|with_reducible exact zAa|with_reducible exact zBB|with_reducible exact zAb);exact rfl;exact rfl)|exact zCY rfl rfl|exact zAi rfl rfl|exact zAn rfl rfl|apply ay (hd:=rfl)|exact zAF rfl|exact zAB rfl|refine zBG rfl rfl ?_|refine zC2 rfl rfl ?_|exact zAZ rfl rfl|exact zAV rfl rfl|exact zAh rfl|(apply zAC;exact rfl;(with_reducible first|exact zAl|exact zC7|exact zEN))|refine w1 rfl rfl ?_|refine k1 (hd:=rfl) rfl rfl ?_|(apply gD;exact rfl;exact rfl;all_goals intro hb)|refine zAI rfl ?_|refine zAJ rfl ?_|apply zAK|refine zAf (by kernel_rfl) (by kernel_rfl) ?_|apply eb_n
   all_goals first|omega|skip
   all_goals exact zBP rfl
theorem za4(m:Img)(c c':CK){k a b:Int}{s:CS}(hd:DoAt m c k ⟨10,a,b⟩ s){cb:Bool}(hQ:conQ m c a cb)(hS:zEL m c c' s true (flo s) (b) (1) (cb&&decide (b<=8)) (.d (zBW [k+1]))): DoTo m c c' k:=by
 refine zDC func74 rfl ntmps74 results74 rfl ?_
 intro wb St0 X fx
 refine zCv m c hd wb St0 X fx _ ?_
 obtain⟨hk0,hat0,hst0,hbig,hlen,hh,htr,ha,hb,_⟩:=hd
 have hr0:=(qAA.1 hst0).1
 have hk1:k<(c.at_.length:Int):=by omega
 dsimp only at ha hb
 clear hat0 hst0
 conv=>arg 2;whnf
 cases cb
 ·skip
  by_cases q1:b<=8
  ·skip
   rw[show (false&&decide (b<=8))=false from by first|(rw[decide_eq_true q1];done)|(rw[decide_eq_true q1];rfl)]at hS
   repeat' first|apply en_n|apply zAG|apply zAA|apply zAD|apply w0|(refine zAX ids4 [] rfl rfl zFw (hQ) rfl (SArgs_all rfl) rfl (by decide) rfl rfl rfl rfl)|(refine zCC zA0 zA5 zCL rfl rfl (zAY rfl zAM) rfl)|(refine zBs (by kernel_rfl) ?_;refine zCs [0,1,2,3,6,7,4] [4,5,6] rfl rfl zAq (hS) rfl (SArgs_all rfl) rfl rfl (by decide) rfl rfl rfl rfl rfl rfl ?_)|(apply zAE;exact rfl;(first|with_reducible exact zAP|with_reducible exact zAt|with_reducible exact zA1|with_reducible exact zAx|with_reducible exact zAa|with_reducible exact zBB|with_reducible exact zAb);exact rfl;exact rfl)|exact zAi rfl rfl|exact zAn rfl rfl|apply ay (hd:=rfl)|exact zAF rfl|exact zAB rfl|refine zBG rfl rfl ?_|exact zAV rfl rfl|exact zAh rfl|(apply zAC;exact rfl;(with_reducible first|exact zAl|exact zCE))|refine k1 (hd:=rfl) rfl rfl ?_|refine zAI rfl ?_|refine zAJ rfl ?_|apply zAK|refine zAf (by kernel_rfl) (by kernel_rfl) ?_|apply eb_n
   all_goals first|omega|skip
   all_goals exact zBP rfl
  ·skip
   rw[show (false&&decide (b<=8))=false from by first|(rw[decide_eq_false q1];done)|(rw[decide_eq_false q1];rfl)]at hS
   repeat' first|apply en_n|apply zAG|apply zAA|apply zAD|apply w0|(refine zAX ids4 [] rfl rfl zFw (hQ) rfl (SArgs_all rfl) rfl (by decide) rfl rfl rfl rfl)|(refine zCC zA0 zA5 zCL rfl rfl (zAY rfl zAM) rfl)|(refine zBs (by kernel_rfl) ?_;refine zCs [0,1,2,3,6,7,4] [4,5,6] rfl rfl zAq (hS) rfl (SArgs_all rfl) rfl rfl (by decide) rfl rfl rfl rfl rfl rfl ?_)|(apply zAE;exact rfl;(first|with_reducible exact zAP|with_reducible exact zAt|with_reducible exact zA1|with_reducible exact zAx|with_reducible exact zAa|with_reducible exact zBB|with_reducible exact zAb);exact rfl;exact rfl)|exact zAi rfl rfl|exact zAn rfl rfl|apply ay (hd:=rfl)|exact zAF rfl|exact zAB rfl|refine zBG rfl rfl ?_|exact zAV rfl rfl|exact zAh rfl|(apply zAC;exact rfl;(with_reducible first|exact zAl|exact zCE))|refine k1 (hd:=rfl) rfl rfl ?_|refine zAI rfl ?_|refine zAJ rfl ?_|apply zAK|refine zAf (by kernel_rfl) (by kernel_rfl) ?_|apply eb_n
   all_goals first|omega|skip
   all_goals exact zBP rfl
 ·skip
  by_cases q1:b<=8
  ·skip
   rw[show (true&&decide (b<=8))=true from by first|(rw[decide_eq_true q1];done)|(rw[decide_eq_true q1];rfl)]at hS
   repeat' first|apply en_n|apply zAG|apply zAA|apply zAD|apply w0|(refine zAX ids4 [] rfl rfl zFw (hQ) rfl (SArgs_all rfl) rfl (by decide) rfl rfl rfl rfl)|(refine zCC zA0 zA5 zCL rfl rfl (zAY rfl zAM) rfl)|(refine zBs (by kernel_rfl) ?_;refine zCs [0,1,2,3,6,7,4] [4,5,6] rfl rfl zAq (hS) rfl (SArgs_all rfl) rfl rfl (by decide) rfl rfl rfl rfl rfl rfl ?_)|(apply zAE;exact rfl;(first|with_reducible exact zAP|with_reducible exact zAt|with_reducible exact zA1|with_reducible exact zAx|with_reducible exact zAa|with_reducible exact zBB|with_reducible exact zAb);exact rfl;exact rfl)|exact zM3 rfl rfl|exact zAi rfl rfl|exact zAn rfl rfl|apply ay (hd:=rfl)|exact zAF rfl|exact zAB rfl|refine zBG rfl rfl ?_|exact zAZ rfl rfl|exact zAh rfl|(apply zAC;exact rfl;(with_reducible first|exact zAl|exact zCE))|refine w1 rfl rfl ?_|refine zAI rfl ?_|refine zAJ rfl ?_|apply zAK|refine zAf (by kernel_rfl) (by kernel_rfl) ?_|apply eb_n
   all_goals first|omega|skip
   all_goals exact zBP rfl
  ·skip
   rw[show (true&&decide (b<=8))=false from by first|(rw[decide_eq_false q1];done)|(rw[decide_eq_false q1];rfl)]at hS
   repeat' first|apply en_n|apply zAG|apply zAA|apply zAD|apply w0|(refine zAX ids4 [] rfl rfl zFw (hQ) rfl (SArgs_all rfl) rfl (by decide) rfl rfl rfl rfl)|(refine zCC zA0 zA5 zCL rfl rfl (zAY rfl zAM) rfl)|(refine zBs (by kernel_rfl) ?_;refine zCs [0,1,2,3,6,7,4] [4,5,6] rfl rfl zAq (hS) rfl (SArgs_all rfl) rfl rfl (by decide) rfl rfl rfl rfl rfl rfl ?_)|(apply zAE;exact rfl;(first|with_reducible exact zAP|with_reducible exact zAt|with_reducible exact zA1|with_reducible exact zAx|with_reducible exact zAa|with_reducible exact zBB|with_reducible exact zAb);exact rfl;exact rfl)|exact zM4 rfl rfl|exact zAi rfl rfl|exact zAn rfl rfl|apply ay (hd:=rfl)|exact zAF rfl|exact zAB rfl|refine zBG rfl rfl ?_|exact zAZ rfl rfl|exact zAh rfl|(apply zAC;exact rfl;(with_reducible first|exact zAl|exact zCE))|refine w1 rfl rfl ?_|refine zAI rfl ?_|refine zAJ rfl ?_|apply zAK|refine zAf (by kernel_rfl) (by kernel_rfl) ?_|apply eb_n
   all_goals first|omega|skip
   all_goals exact zBP rfl
theorem za2(m:Img)(c c':CK){k a b:Int}{s:CS}(hd:DoAt m c k ⟨12,a,b⟩ s)(hS:zEL m c c' s true (flo s) (takes a) (1) (decide (takes a>0)) (.d (zBW [k+1]))): DoTo m c c' k:=by
 refine zDC func74 rfl ntmps74 results74 rfl ?_
 intro wb St0 X fx
 refine zCv m c hd wb St0 X fx _ ?_
 obtain⟨hk0,hat0,hst0,hbig,hlen,hh,htr,ha,hb,_⟩:=hd
 have hr0:=(qAA.1 hst0).1
 have hk1:k<(c.at_.length:Int):=by omega
 dsimp only at ha hb
 clear hat0 hst0
 conv=>arg 2;whnf
 have hTk:=zE7 a
 by_cases q0:takes a>0
 ·skip
  rw[show (decide (takes a>0))=true from by first|(rw[decide_eq_true q0];done)|(rw[decide_eq_true q0];rfl)]at hS
  repeat' first|apply en_n|apply zAG|apply zAA|apply zAD|apply w0|(refine zAd zCO hTk (CoLA rfl))|(refine zCC zA0 zA5 zCL rfl rfl (zAY rfl zAM) rfl)|(refine zBs (by kernel_rfl) ?_;refine zCs [0,1,2,3,6,7,4] [4,5,6] rfl rfl zAq (hS) rfl (SArgs_all rfl) rfl rfl (by decide) rfl rfl rfl rfl rfl rfl ?_)|(apply zAE;exact rfl;(first|with_reducible exact zAP|with_reducible exact zAt|with_reducible exact zA1|with_reducible exact zAx|with_reducible exact zAa|with_reducible exact zBB|with_reducible exact zAb);exact rfl;exact rfl)|exact zEr rfl rfl|exact zAi rfl rfl|exact zAn rfl rfl|apply ay (hd:=rfl)|exact zAF rfl|exact zAB rfl|refine zBG rfl rfl ?_|exact zAh rfl|exact zAC rfl zAl|refine zAI rfl ?_|refine zAJ rfl ?_|apply zAK|refine zAf (by kernel_rfl) (by kernel_rfl) ?_|apply eb_n
  all_goals first|omega|skip
  all_goals exact zBP rfl
 ·skip
  rw[show (decide (takes a>0))=false from by first|(rw[decide_eq_false q0];done)|(rw[decide_eq_false q0];rfl)]at hS
  repeat' first|apply en_n|apply zAG|apply zAA|apply zAD|apply w0|(refine zAd zCO hTk (CoLA rfl))|(refine zCC zA0 zA5 zCL rfl rfl (zAY rfl zAM) rfl)|(refine zBs (by kernel_rfl) ?_;refine zCs [0,1,2,3,6,7,4] [4,5,6] rfl rfl zAq (hS) rfl (SArgs_all rfl) rfl rfl (by decide) rfl rfl rfl rfl rfl rfl ?_)|(apply zAE;exact rfl;(first|with_reducible exact zAP|with_reducible exact zAt|with_reducible exact zA1|with_reducible exact zAx|with_reducible exact zAa|with_reducible exact zBB|with_reducible exact zAb);exact rfl;exact rfl)|exact zDx rfl rfl|exact zAi rfl rfl|exact zAn rfl rfl|apply ay (hd:=rfl)|exact zAF rfl|exact zAB rfl|refine zBG rfl rfl ?_|exact zAh rfl|exact zAC rfl zAl|refine zAI rfl ?_|refine zAJ rfl ?_|apply zAK|refine zAf (by kernel_rfl) (by kernel_rfl) ?_|apply eb_n
  all_goals first|omega|skip
  all_goals exact zBP rfl
theorem zav(m:Img)(c c':CK){k a b:Int}{s:CS}(hd:DoAt m c k ⟨19,a,b⟩ s){cb:Bool}(hQ:conQ m c b cb)(hS:zEL m c c' s true (flo s) (0) (0) (decide (s.height>0)&&cb) (.d (zBW [a,k+1]))): DoTo m c c' k:=by
 refine zDC func74 rfl ntmps74 results74 rfl ?_
 intro wb St0 X fx
 refine zCv m c hd wb St0 X fx _ ?_
 obtain⟨hk0,hat0,hst0,hbig,hlen,hh,htr,ha,hb,_⟩:=hd
 have hr0:=(qAA.1 hst0).1
 have hk1:k<(c.at_.length:Int):=by omega
 dsimp only at ha hb
 clear hat0 hst0
 conv=>arg 2;whnf
 by_cases q0:s.height>0
 ·skip
  cases cb
  ·skip
   rw[show (decide (s.height>0)&&false)=false from by first|(rw[decide_eq_true q0];done)|(rw[decide_eq_true q0];rfl)]at hS
   repeat' first|apply en_n|apply zAG|apply zAA|apply zAD|apply w0|(refine zAX ids4 [] rfl rfl zFw (hQ) rfl (SArgs_all rfl) rfl (by decide) rfl rfl rfl rfl)|(refine zGj zA0 zA5 zCL rfl rfl (zAY rfl (zAY rfl zAM)) rfl)|(refine zBs (by kernel_rfl) ?_;refine zCs [0,1,2,3,6,7,4] [4,5,6] rfl rfl zAq (hS) rfl (SArgs_all rfl) rfl rfl (by decide) rfl rfl rfl rfl rfl rfl ?_)|(apply zAE;exact rfl;(first|with_reducible exact zAP|with_reducible exact zAt|with_reducible exact zA1|with_reducible exact zAx|with_reducible exact zAa|with_reducible exact zBB|with_reducible exact zAb);exact rfl;exact rfl)|exact zEr rfl rfl|exact zAi rfl rfl|exact zAn rfl rfl|apply ay (hd:=rfl)|exact zAF rfl|exact zAB rfl|refine zBG rfl rfl ?_|exact zAZ rfl rfl|exact zAh rfl|(apply zAC;exact rfl;(with_reducible first|exact zAl|exact zCE|exact zCA))|refine w1 rfl rfl ?_|refine zAI rfl ?_|refine zAJ rfl ?_|apply zAK|refine zAf (by kernel_rfl) (by kernel_rfl) ?_|apply eb_n
   all_goals first|omega|skip
   all_goals exact zBP rfl
  ·skip
   rw[show (decide (s.height>0)&&true)=true from by first|(rw[decide_eq_true q0];done)|(rw[decide_eq_true q0];rfl)]at hS
   repeat' first|apply en_n|apply zAG|apply zAA|apply zAD|apply w0|(refine zAX ids4 [] rfl rfl zFw (hQ) rfl (SArgs_all rfl) rfl (by decide) rfl rfl rfl rfl)|(refine zGj zA0 zA5 zCL rfl rfl (zAY rfl (zAY rfl zAM)) rfl)|(refine zBs (by kernel_rfl) ?_;refine zCs [0,1,2,3,6,7,4] [4,5,6] rfl rfl zAq (hS) rfl (SArgs_all rfl) rfl rfl (by decide) rfl rfl rfl rfl rfl rfl ?_)|(apply zAE;exact rfl;(first|with_reducible exact zAP|with_reducible exact zAt|with_reducible exact zA1|with_reducible exact zAx|with_reducible exact zAa|with_reducible exact zBB|with_reducible exact zAb);exact rfl;exact rfl)|exact zEr rfl rfl|exact zAi rfl rfl|exact zAn rfl rfl|apply ay (hd:=rfl)|exact zAF rfl|exact zAB rfl|refine zBG rfl rfl ?_|exact zAZ rfl rfl|exact zAh rfl|(apply zAC;exact rfl;(with_reducible first|exact zAl|exact zCE|exact zCA))|refine w1 rfl rfl ?_|refine zAI rfl ?_|refine zAJ rfl ?_|apply zAK|refine zAf (by kernel_rfl) (by kernel_rfl) ?_|apply eb_n
   all_goals first|omega|skip
   all_goals exact zBP rfl
 ·skip
  cases cb
  ·skip
   rw[show (decide (s.height>0)&&false)=false from by first|(rw[decide_eq_false q0];done)|(rw[decide_eq_false q0];rfl)]at hS
   repeat' first|apply en_n|apply zAG|apply zAA|apply zAD|apply w0|(refine zGj zA0 zA5 zCL rfl rfl (zAY rfl (zAY rfl zAM)) rfl)|(refine zBs (by kernel_rfl) ?_;refine zCs [0,1,2,3,6,7,4] [4,5,6] rfl rfl zAq (hS) rfl (SArgs_all rfl) rfl rfl (by decide) rfl rfl rfl rfl rfl rfl ?_)|(apply zAE;exact rfl;(first|with_reducible exact zAP|with_reducible exact zAt|with_reducible exact zA1|with_reducible exact zAx|with_reducible exact zAa|with_reducible exact zBB|with_reducible exact zAb);exact rfl;exact rfl)|exact zDx rfl rfl|exact zAi rfl rfl|exact zAn rfl rfl|apply ay (hd:=rfl)|exact zAF rfl|exact zAB rfl|refine zBG rfl rfl ?_|exact zAV rfl rfl|exact zAh rfl|(apply zAC;exact rfl;(with_reducible first|exact zAl|exact zCA))|refine k1 (hd:=rfl) rfl rfl ?_|refine zAI rfl ?_|refine zAJ rfl ?_|apply zAK|refine zAf (by kernel_rfl) (by kernel_rfl) ?_|apply eb_n
   all_goals first|omega|skip
   all_goals exact zBP rfl
  ·skip
   rw[show (decide (s.height>0)&&true)=false from by first|(rw[decide_eq_false q0];done)|(rw[decide_eq_false q0];rfl)]at hS
   repeat' first|apply en_n|apply zAG|apply zAA|apply zAD|apply w0|(refine zGj zA0 zA5 zCL rfl rfl (zAY rfl (zAY rfl zAM)) rfl)|(refine zBs (by kernel_rfl) ?_;refine zCs [0,1,2,3,6,7,4] [4,5,6] rfl rfl zAq (hS) rfl (SArgs_all rfl) rfl rfl (by decide) rfl rfl rfl rfl rfl rfl ?_)|(apply zAE;exact rfl;(first|with_reducible exact zAP|with_reducible exact zAt|with_reducible exact zA1|with_reducible exact zAx|with_reducible exact zAa|with_reducible exact zBB|with_reducible exact zAb);exact rfl;exact rfl)|exact zDx rfl rfl|exact zAi rfl rfl|exact zAn rfl rfl|apply ay (hd:=rfl)|exact zAF rfl|exact zAB rfl|refine zBG rfl rfl ?_|exact zAV rfl rfl|exact zAh rfl|(apply zAC;exact rfl;(with_reducible first|exact zAl|exact zCA))|refine k1 (hd:=rfl) rfl rfl ?_|refine zAI rfl ?_|refine zAJ rfl ?_|apply zAK|refine zAf (by kernel_rfl) (by kernel_rfl) ?_|apply eb_n
   all_goals first|omega|skip
   all_goals exact zBP rfl
theorem zau(m:Img)(c c':CK){k a b:Int}{s:CS}(hd:DoAt m c k ⟨20,a,b⟩ s){cb:Bool}(hQ:numQ m c b cb)(hS:zEL m c c' s true (flo s) (0) (0) (decide (s.height>0)&&cb) (.d (zBW [a,k+1]))): DoTo m c c' k:=by
 refine zDC func74 rfl ntmps74 results74 rfl ?_
 intro wb St0 X fx
 refine zCv m c hd wb St0 X fx _ ?_
 obtain⟨hk0,hat0,hst0,hbig,hlen,hh,htr,ha,hb,_⟩:=hd
 have hr0:=(qAA.1 hst0).1
 have hk1:k<(c.at_.length:Int):=by omega
 dsimp only at ha hb
 clear hat0 hst0
 conv=>arg 2;whnf
 by_cases q0:s.height>0
 ·skip
  cases cb
  ·skip
   rw[show (decide (s.height>0)&&false)=false from by first|(rw[decide_eq_true q0];done)|(rw[decide_eq_true q0];rfl)]at hS
   repeat' first|apply en_n|apply zAG|apply zAA|apply zAD|apply w0|(refine zAX ids4 [] rfl rfl zIb (hQ) rfl (SArgs_all rfl) rfl (by decide) rfl rfl rfl rfl)|(refine zGj zA0 zA5 zCL rfl rfl (zAY rfl (zAY rfl zAM)) rfl)|(refine zBs (by kernel_rfl) ?_;refine zCs [0,1,2,3,6,7,4] [4,5,6] rfl rfl zAq (hS) rfl (SArgs_all rfl) rfl rfl (by decide) rfl rfl rfl rfl rfl rfl ?_)|(apply zAE;exact rfl;(first|with_reducible exact zAP|with_reducible exact zAt|with_reducible exact zA1|with_reducible exact zAx|with_reducible exact zAa|with_reducible exact zBB|with_reducible exact zAb);exact rfl;exact rfl)|exact zEr rfl rfl|exact zAi rfl rfl|exact zAn rfl rfl|apply ay (hd:=rfl)|exact zAF rfl|exact zAB rfl|refine zBG rfl rfl ?_|exact zAZ rfl rfl|exact zAh rfl|(apply zAC;exact rfl;(with_reducible first|exact zAl|exact zCE|exact zCA))|refine w1 rfl rfl ?_|refine zAI rfl ?_|refine zAJ rfl ?_|apply zAK|refine zAf (by kernel_rfl) (by kernel_rfl) ?_|apply eb_n
   all_goals first|omega|skip
   all_goals exact zBP rfl
  ·skip
   rw[show (decide (s.height>0)&&true)=true from by first|(rw[decide_eq_true q0];done)|(rw[decide_eq_true q0];rfl)]at hS
   repeat' first|apply en_n|apply zAG|apply zAA|apply zAD|apply w0|(refine zAX ids4 [] rfl rfl zIb (hQ) rfl (SArgs_all rfl) rfl (by decide) rfl rfl rfl rfl)|(refine zGj zA0 zA5 zCL rfl rfl (zAY rfl (zAY rfl zAM)) rfl)|(refine zBs (by kernel_rfl) ?_;refine zCs [0,1,2,3,6,7,4] [4,5,6] rfl rfl zAq (hS) rfl (SArgs_all rfl) rfl rfl (by decide) rfl rfl rfl rfl rfl rfl ?_)|(apply zAE;exact rfl;(first|with_reducible exact zAP|with_reducible exact zAt|with_reducible exact zA1|with_reducible exact zAx|with_reducible exact zAa|with_reducible exact zBB|with_reducible exact zAb);exact rfl;exact rfl)|exact zEr rfl rfl|exact zAi rfl rfl|exact zAn rfl rfl|apply ay (hd:=rfl)|exact zAF rfl|exact zAB rfl|refine zBG rfl rfl ?_|exact zAZ rfl rfl|exact zAh rfl|(apply zAC;exact rfl;(with_reducible first|exact zAl|exact zCE|exact zCA))|refine w1 rfl rfl ?_|refine zAI rfl ?_|refine zAJ rfl ?_|apply zAK|refine zAf (by kernel_rfl) (by kernel_rfl) ?_|apply eb_n
   all_goals first|omega|skip
   all_goals exact zBP rfl
 ·skip
  cases cb
  ·skip
   rw[show (decide (s.height>0)&&false)=false from by first|(rw[decide_eq_false q0];done)|(rw[decide_eq_false q0];rfl)]at hS
   repeat' first|apply en_n|apply zAG|apply zAA|apply zAD|apply w0|(refine zGj zA0 zA5 zCL rfl rfl (zAY rfl (zAY rfl zAM)) rfl)|(refine zBs (by kernel_rfl) ?_;refine zCs [0,1,2,3,6,7,4] [4,5,6] rfl rfl zAq (hS) rfl (SArgs_all rfl) rfl rfl (by decide) rfl rfl rfl rfl rfl rfl ?_)|(apply zAE;exact rfl;(first|with_reducible exact zAP|with_reducible exact zAt|with_reducible exact zA1|with_reducible exact zAx|with_reducible exact zAa|with_reducible exact zBB|with_reducible exact zAb);exact rfl;exact rfl)|exact zDx rfl rfl|exact zAi rfl rfl|exact zAn rfl rfl|apply ay (hd:=rfl)|exact zAF rfl|exact zAB rfl|refine zBG rfl rfl ?_|exact zAV rfl rfl|exact zAh rfl|(apply zAC;exact rfl;(with_reducible first|exact zAl|exact zCA))|refine k1 (hd:=rfl) rfl rfl ?_|refine zAI rfl ?_|refine zAJ rfl ?_|apply zAK|refine zAf (by kernel_rfl) (by kernel_rfl) ?_|apply eb_n
   all_goals first|omega|skip
   all_goals exact zBP rfl
  ·skip
   rw[show (decide (s.height>0)&&true)=false from by first|(rw[decide_eq_false q0];done)|(rw[decide_eq_false q0];rfl)]at hS
   repeat' first|apply en_n|apply zAG|apply zAA|apply zAD|apply w0|(refine zGj zA0 zA5 zCL rfl rfl (zAY rfl (zAY rfl zAM)) rfl)|(refine zBs (by kernel_rfl) ?_;refine zCs [0,1,2,3,6,7,4] [4,5,6] rfl rfl zAq (hS) rfl (SArgs_all rfl) rfl rfl (by decide) rfl rfl rfl rfl rfl rfl ?_)|(apply zAE;exact rfl;(first|with_reducible exact zAP|with_reducible exact zAt|with_reducible exact zA1|with_reducible exact zAx|with_reducible exact zAa|with_reducible exact zBB|with_reducible exact zAb);exact rfl;exact rfl)|exact zDx rfl rfl|exact zAi rfl rfl|exact zAn rfl rfl|apply ay (hd:=rfl)|exact zAF rfl|exact zAB rfl|refine zBG rfl rfl ?_|exact zAV rfl rfl|exact zAh rfl|(apply zAC;exact rfl;(with_reducible first|exact zAl|exact zCA))|refine k1 (hd:=rfl) rfl rfl ?_|refine zAI rfl ?_|refine zAJ rfl ?_|apply zAK|refine zAf (by kernel_rfl) (by kernel_rfl) ?_|apply eb_n
   all_goals first|omega|skip
   all_goals exact zBP rfl
end Go.Proofs.YtcagoomibpcdlaaGreatDoor
