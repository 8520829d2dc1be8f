/- Parts of the proof. -/
import Derived.Test.YtcagoomibpcdlaaGreatDoorMBI
set_option maxHeartbeats 16000000
namespace Go.Proofs.YtcagoomibpcdlaaGreatDoor
open _root_.Go.Proofs.Tryz
open Go.Sx Go.Vm
attribute [local irreducible] zAO Program.underlying Ylds zBE alex zB0 zBk awp zAg zB9 zB8 zAU zBj zA6 zDJ zBl zBn zBC zBq zBz zB7 zDQ zBm zBc zBe JFit
theorem do_7(m:Img)(c c':CK){k a b:Int}{s:CS}(hd:DoAt m c k ⟨7,a,b⟩ s)(hS:zEL m c c' s true (flo s) (2) (1) (true) (.d (zBW [k+1]))): DoTo m c c' k:=by
 refine zDC func74 rfl ntmps74 results74 rfl ?_
 intro wb St0 X fx
 refine zCv m c hd wb St0 X fx _ ?_
 obtain⟨hk0,hat0,hst0,hbig,hlen,hh,htr,ha,hb,_⟩:=hd
 have hr0:=(qAA.1 hst0).1
 have hk1:k<(c.at_.length:Int):=by omega
 dsimp only at ha hb
 clear hat0 hst0
 conv=>arg 2;whnf
 repeat' first|apply en_n|apply zAG|apply zAA|apply zAD|apply w0|(refine zCC zA0 zA5 zCL rfl rfl (zAY rfl zAM) rfl)|(refine zCs [0,1,2,3,6,7,4] [4,5,6] rfl rfl zAq (hS) rfl (SArgs_all rfl) rfl rfl (by decide) rfl rfl rfl rfl rfl rfl ?_)|exact zAi rfl rfl|exact zAn rfl rfl|apply ay (hd:=rfl)|exact zAF rfl|exact zAB rfl|refine zBG rfl rfl ?_|exact zAh rfl|refine zAI rfl ?_|refine zAJ rfl ?_|apply zAK|apply eb_n
 all_goals first|omega|skip
 all_goals exact zBP rfl
theorem do_5(m:Img)(c c':CK){k a b:Int}{s:CS}(hd:DoAt m c k ⟨5,a,b⟩ s)(hS:zEL m c c' s true (flo s) (a) (0) (true) (.d (zBW [k+1]))): DoTo m c c' k:=by
 refine zDC func74 rfl ntmps74 results74 rfl ?_
 intro wb St0 X fx
 refine zCv m c hd wb St0 X fx _ ?_
 obtain⟨hk0,hat0,hst0,hbig,hlen,hh,htr,ha,hb,_⟩:=hd
 have hr0:=(qAA.1 hst0).1
 have hk1:k<(c.at_.length:Int):=by omega
 dsimp only at ha hb
 clear hat0 hst0
 conv=>arg 2;whnf
 repeat' first|apply en_n|apply zAG|apply zAA|apply zAD|apply w0|(refine zCC zA0 zA5 zCL rfl rfl (zAY rfl zAM) rfl)|(refine zCs [0,1,2,3,6,7,4] [4,5,6] rfl rfl zAq (hS) rfl (SArgs_all rfl) rfl rfl (by decide) rfl rfl rfl rfl rfl rfl ?_)|(apply zAE;exact rfl;(first|with_reducible exact zAP|with_reducible exact zAt|with_reducible exact zA1|with_reducible exact zAx|with_reducible exact zAa|with_reducible exact zBB|with_reducible exact zAb);exact rfl;exact rfl)|exact zAi rfl rfl|exact zAn rfl rfl|apply ay (hd:=rfl)|exact zAF rfl|exact zAB rfl|refine zBG rfl rfl ?_|exact zAh rfl|exact zAC rfl zAl|refine zAI rfl ?_|refine zAJ rfl ?_|apply zAK|apply eb_n
 all_goals first|omega|skip
 all_goals exact zBP rfl
theorem do_6(m:Img)(c c':CK){k a b:Int}{s:CS}(hd:DoAt m c k ⟨6,a,b⟩ s)(hS:zEL m c c' s true (flo s) (a+1) (1) (true) (.d (zBW [k+1]))): DoTo m c c' k:=by
 refine zDC func74 rfl ntmps74 results74 rfl ?_
 intro wb St0 X fx
 refine zCv m c hd wb St0 X fx _ ?_
 obtain⟨hk0,hat0,hst0,hbig,hlen,hh,htr,ha,hb,_⟩:=hd
 have hr0:=(qAA.1 hst0).1
 have hk1:k<(c.at_.length:Int):=by omega
 dsimp only at ha hb
 clear hat0 hst0
 conv=>arg 2;whnf
 repeat' first|apply en_n|apply zAG|apply zAA|apply zAD|apply w0|(refine zCC zA0 zA5 zCL rfl rfl (zAY rfl zAM) rfl)|(refine zCs [0,1,2,3,6,7,4] [4,5,6] rfl rfl zAq (hS) rfl (SArgs_all rfl) rfl rfl (by decide) rfl rfl rfl rfl rfl rfl ?_)|(apply zAE;exact rfl;(first|with_reducible exact zAP|with_reducible exact zAt|with_reducible exact zA1|with_reducible exact zAx|with_reducible exact zAa|with_reducible exact zBB|with_reducible exact zAb);exact rfl;exact rfl)|exact zAi rfl rfl|exact zAn rfl rfl|apply ay (hd:=rfl)|exact zAF rfl|exact zAB rfl|refine zBG rfl rfl ?_|exact zAh rfl|exact zAC rfl zAl|refine zAI rfl ?_|refine zAJ rfl ?_|apply zAK|apply eb_n
 all_goals first|omega|skip
 all_goals exact zBP rfl
theorem za1(m:Img)(c c':CK){k a b:Int}{s:CS}(hd:DoAt m c k ⟨13,a,b⟩ s)(hS:zEL m c c' s true (flo s) (1) (0) (true) (.nil)): DoTo m c c' k:=by
 refine zDC func74 rfl ntmps74 results74 rfl ?_
 intro wb St0 X fx
 refine zCv m c hd wb St0 X fx _ ?_
 obtain⟨hk0,hat0,hst0,hbig,hlen,hh,htr,ha,hb,_⟩:=hd
 have hr0:=(qAA.1 hst0).1
 have hk1:k<(c.at_.length:Int):=by omega
 dsimp only at ha hb
 clear hat0 hst0
 conv=>arg 2;whnf
 repeat' first|apply en_n|apply zAG|apply zAA|apply zAD|apply w0|(refine zCs [0,1,2,3,6,7,4] [4,5,6] rfl rfl zAq (hS) rfl (SArgs_all rfl) rfl rfl (by decide) rfl rfl rfl rfl rfl rfl ?_)|exact zAi rfl rfl|exact zAn rfl rfl|apply ay (hd:=rfl)|exact zAB rfl|exact zAh rfl|refine zAI rfl ?_|refine zAJ rfl ?_|apply zAK|apply eb_n
 all_goals first|omega|skip
 all_goals exact zBP rfl
theorem zaz(m:Img)(c c':CK){k a b:Int}{s:CS}(hd:DoAt m c k ⟨15,a,b⟩ s)(hS:zEL m c c' s true (flo s) (0) (0) (true) (.d (zBW [a]))): DoTo m c c' k:=by
 refine zDC func74 rfl ntmps74 results74 rfl ?_
 intro wb St0 X fx
 refine zCv m c hd wb St0 X fx _ ?_
 obtain⟨hk0,hat0,hst0,hbig,hlen,hh,htr,ha,hb,_⟩:=hd
 have hr0:=(qAA.1 hst0).1
 have hk1:k<(c.at_.length:Int):=by omega
 dsimp only at ha hb
 clear hat0 hst0
 conv=>arg 2;whnf
 repeat' first|apply en_n|apply zAG|apply zAA|apply zAD|apply w0|(refine zCC zA0 zA5 zCL rfl rfl (zAY rfl zAM) rfl)|(refine zCs [0,1,2,3,6,7,4] [4,5,6] rfl rfl zAq (hS) rfl (SArgs_all rfl) rfl rfl (by decide) rfl rfl rfl rfl rfl rfl ?_)|(apply zAE;exact rfl;(first|with_reducible exact zAP|with_reducible exact zAt|with_reducible exact zA1|with_reducible exact zAx|with_reducible exact zAa|with_reducible exact zBB|with_reducible exact zAb);exact rfl;exact rfl)|exact zAi rfl rfl|exact zAn rfl rfl|apply ay (hd:=rfl)|exact zAB rfl|exact zAh rfl|exact zAC rfl zAl|refine zAI rfl ?_|refine zAJ rfl ?_|apply zAK|apply eb_n
 all_goals first|omega|skip
 all_goals exact zBP rfl
theorem zay(m:Img)(c c':CK){k a b:Int}{s:CS}(hd:DoAt m c k ⟨16,a,b⟩ s)(hS:zEL m c c' s true (flo s) (1) (0) (true) (.d (zBW [a,k+1]))): DoTo m c c' k:=by
 refine zDC func74 rfl ntmps74 results74 rfl ?_
 intro wb St0 X fx
 refine zCv m c hd wb St0 X fx _ ?_
 obtain⟨hk0,hat0,hst0,hbig,hlen,hh,htr,ha,hb,_⟩:=hd
 have hr0:=(qAA.1 hst0).1
 have hk1:k<(c.at_.length:Int):=by omega
 dsimp only at ha hb
 clear hat0 hst0
 conv=>arg 2;whnf
 repeat' first|apply en_n|apply zAG|apply zAA|apply zAD|apply w0|(refine zGj zA0 zA5 zCL rfl rfl (zAY rfl (zAY rfl zAM)) rfl)|(refine zCs [0,1,2,3,6,7,4] [4,5,6] rfl rfl zAq (hS) rfl (SArgs_all rfl) rfl rfl (by decide) rfl rfl rfl rfl rfl rfl ?_)|(apply zAE;exact rfl;(first|with_reducible exact zAP|with_reducible exact zAt|with_reducible exact zA1|with_reducible exact zAx|with_reducible exact zAa|with_reducible exact zBB|with_reducible exact zAb);exact rfl;exact rfl)|exact zAi rfl rfl|exact zAn rfl rfl|apply ay (hd:=rfl)|exact zAF rfl|exact zAB rfl|refine zBG rfl rfl ?_|exact zAh rfl|exact zAC rfl zAl|refine zAI rfl ?_|refine zAJ rfl ?_|apply zAK|apply eb_n
 all_goals first|omega|skip
 all_goals exact zBP rfl
theorem do_0(m:Img)(c c':CK){k a b:Int}{s:CS}(hd:DoAt m c k ⟨0,a,b⟩ s)(hS:zEL m c c' s true (flo s) (1) (0) (decide (s.of = -1)&&decide ((s.tries.length:Int)=0)) (.nil)): DoTo m c c' k:=by
 refine zDC func74 rfl ntmps74 results74 rfl ?_
 intro wb St0 X fx
 refine zCv m c hd wb St0 X fx _ ?_
 obtain⟨hk0,hat0,hst0,hbig,hlen,hh,htr,ha,hb,_⟩:=hd
 have hr0:=(qAA.1 hst0).1
 have hk1:k<(c.at_.length:Int):=by omega
 dsimp only at ha hb
 clear hat0 hst0
 conv=>arg 2;whnf
 by_cases q0:s.of = -1
 ·skip
  by_cases q1:(s.tries.length:Int)=0
  ·skip
   rw[show (decide (s.of = -1)&&decide ((s.tries.length:Int)=0))=true from by first|(rw[decide_eq_true q0,decide_eq_true q1];done)|(rw[decide_eq_true q0,decide_eq_true q1];rfl)]at hS
   repeat' first|apply en_n|apply zAG|apply zAA|apply zAD|apply w0|(refine zCs [0,1,2,3,6,7,4] [4,5,6] rfl rfl zAq (hS) rfl (SArgs_all rfl) rfl rfl (by decide) rfl rfl rfl rfl rfl rfl ?_)|(apply zAE;exact rfl;(first|with_reducible exact zAP|with_reducible exact zAt|with_reducible exact zA1|with_reducible exact zAx|with_reducible exact zAa|with_reducible exact zBB|with_reducible exact zAb);exact rfl;exact rfl)|refine k1u (hd:=rfl) rfl rfl ?_|exact zAi rfl rfl|apply ay (hd:=rfl)|exact zAF rfl|exact zAB rfl|exact zBD rfl zCP|exact zBS rfl|exact zAZ rfl rfl|exact zAV rfl rfl|exact zAh rfl|exact zAC rfl zBv|refine w1 rfl rfl ?_|(apply gN;exact rfl;exact rfl;all_goals intro hb)|refine zAI rfl ?_|apply zAK|apply eb_n
   all_goals first|omega|skip
   all_goals exact zBP rfl
  ·skip
   rw[show (decide (s.of = -1)&&decide ((s.tries.length:Int)=0))=false from by first|(rw[decide_eq_true q0,decide_eq_false q1];done)|(rw[decide_eq_true q0,decide_eq_false q1];rfl)]at hS
   repeat' first|apply en_n|apply zAG|apply zAA|apply zAD|apply w0|(refine zCs [0,1,2,3,6,7,4] [4,5,6] rfl rfl zAq (hS) rfl (SArgs_all rfl) rfl rfl (by decide) rfl rfl rfl rfl rfl rfl ?_)|(apply zAE;exact rfl;(first|with_reducible exact zAP|with_reducible exact zAt|with_reducible exact zA1|with_reducible exact zAx|with_reducible exact zAa|with_reducible exact zBB|with_reducible exact zAb);exact rfl;exact rfl)|refine k1u (hd:=rfl) rfl rfl ?_|exact zAi rfl rfl|exact zAn rfl rfl|apply ay (hd:=rfl)|exact zAF rfl|exact zAB rfl|exact zBD rfl zCP|exact zBS rfl|exact zAZ rfl rfl|exact zAV rfl rfl|exact zAh rfl|exact zAC rfl zBv|refine w1 rfl rfl ?_|(apply gN;exact rfl;exact rfl;all_goals intro hb)|refine zAI rfl ?_|apply zAK|apply eb_n
   all_goals first|omega|skip
   all_goals exact zBP rfl
 ·skip
  by_cases q1:(s.tries.length:Int)=0
  ·skip
   rw[show (decide (s.of = -1)&&decide ((s.tries.length:Int)=0))=false from by first|(rw[decide_eq_false q0,decide_eq_true q1];done)|(rw[decide_eq_false q0,decide_eq_true q1];rfl)]at hS
   repeat' first|apply en_n|apply zAG|apply zAA|apply zAD|apply w0|(refine zCs [0,1,2,3,6,7,4] [4,5,6] rfl rfl zAq (hS) rfl (SArgs_all rfl) rfl rfl (by decide) rfl rfl rfl rfl rfl rfl ?_)|(apply zAE;exact rfl;(first|with_reducible exact zAP|with_reducible exact zAt|with_reducible exact zA1|with_reducible exact zAx|with_reducible exact zAa|with_reducible exact zBB|with_reducible exact zAb);exact rfl;exact rfl)|refine k1u (hd:=rfl) rfl rfl ?_|exact zAi rfl rfl|apply ay (hd:=rfl)|exact zAF rfl|exact zAB rfl|exact zBD rfl zCP|exact zBS rfl|exact zAZ rfl rfl|exact zAV rfl rfl|exact zAh rfl|exact zAC rfl zBv|refine w1 rfl rfl ?_|(apply gN;exact rfl;exact rfl;all_goals intro hb)|refine zAI rfl ?_|apply zAK|apply eb_n
   all_goals first|omega|skip
   all_goals exact zBP rfl
  ·skip
   rw[show (decide (s.of = -1)&&decide ((s.tries.length:Int)=0))=false from by first|(rw[decide_eq_false q0,decide_eq_false q1];done)|(rw[decide_eq_false q0,decide_eq_false q1];rfl)]at hS
   repeat' first|apply en_n|apply zAG|apply zAA|apply zAD|apply w0|(refine zCs [0,1,2,3,6,7,4] [4,5,6] rfl rfl zAq (hS) rfl (SArgs_all rfl) rfl rfl (by decide) rfl rfl rfl rfl rfl rfl ?_)|(apply zAE;exact rfl;(first|with_reducible exact zAP|with_reducible exact zAt|with_reducible exact zA1|with_reducible exact zAx|with_reducible exact zAa|with_reducible exact zBB|with_reducible exact zAb);exact rfl;exact rfl)|refine k1u (hd:=rfl) rfl rfl ?_|exact zAi rfl rfl|apply ay (hd:=rfl)|exact zAF rfl|exact zAB rfl|exact zBD rfl zCP|exact zBS rfl|exact zAZ rfl rfl|exact zAV rfl rfl|exact zAh rfl|exact zAC rfl zBv|refine w1 rfl rfl ?_|(apply gN;exact rfl;exact rfl;all_goals intro hb)|refine zAI rfl ?_|apply zAK|apply eb_n
   all_goals first|omega|skip
   all_goals exact zBP rfl
theorem do_2(m:Img)(c c':CK){k a b:Int}{s:CS}(hd:DoAt m c k ⟨2,a,b⟩ s)(hS:zEL m c c' s true (flo s) (0) (1) (decide (a<s.height)) (.d (zBW [k+1]))): DoTo m c c' k:=by
 refine zDC func74 rfl ntmps74 results74 rfl ?_
 intro wb St0 X fx
 refine zCv m c hd wb St0 X fx _ ?_
 obtain⟨hk0,hat0,hst0,hbig,hlen,hh,htr,ha,hb,_⟩:=hd
 have hr0:=(qAA.1 hst0).1
 have hk1:k<(c.at_.length:Int):=by omega
 dsimp only at ha hb
 clear hat0 hst0
 conv=>arg 2;whnf
 by_cases q0:a<s.height
 ·skip
  rw[show (decide (a<s.height))=true from by first|(rw[decide_eq_true q0];done)|(rw[decide_eq_true q0];rfl)]at hS
  repeat' first|apply en_n|apply zAG|apply zAA|apply zAD|apply w0|(refine zCC zA0 zA5 zCL rfl rfl (zAY rfl zAM) rfl)|(refine zCs [0,1,2,3,6,7,4] [4,5,6] rfl rfl zAq (hS) rfl (SArgs_all rfl) rfl rfl (by decide) rfl rfl rfl rfl rfl rfl ?_)|(apply zAE;exact rfl;(first|with_reducible exact zAP|with_reducible exact zAt|with_reducible exact zA1|with_reducible exact zAx|with_reducible exact zAa|with_reducible exact zBB|with_reducible exact zAb);exact rfl;exact rfl)|exact zCf rfl rfl|exact zAi rfl rfl|exact zAn rfl rfl|apply ay (hd:=rfl)|exact zAF rfl|exact zAB rfl|refine zBG rfl rfl ?_|exact zAh rfl|(apply zAC;exact rfl;(with_reducible first|exact zAl|exact zCA))|refine zAI rfl ?_|refine zAJ rfl ?_|apply zAK|apply eb_n
  all_goals first|omega|skip
  all_goals exact zBP rfl
 ·skip
  rw[show (decide (a<s.height))=false from by first|(rw[decide_eq_false q0];done)|(rw[decide_eq_false q0];rfl)]at hS
  repeat' first|apply en_n|apply zAG|apply zAA|apply zAD|apply w0|(refine zCC zA0 zA5 zCL rfl rfl (zAY rfl zAM) rfl)|(refine zCs [0,1,2,3,6,7,4] [4,5,6] rfl rfl zAq (hS) rfl (SArgs_all rfl) rfl rfl (by decide) rfl rfl rfl rfl rfl rfl ?_)|(apply zAE;exact rfl;(first|with_reducible exact zAP|with_reducible exact zAt|with_reducible exact zA1|with_reducible exact zAx|with_reducible exact zAa|with_reducible exact zBB|with_reducible exact zAb);exact rfl;exact rfl)|exact zCY rfl rfl|exact zAi rfl rfl|exact zAn rfl rfl|apply ay (hd:=rfl)|exact zAF rfl|exact zAB rfl|refine zBG rfl rfl ?_|exact zAh rfl|(apply zAC;exact rfl;(with_reducible first|exact zAl|exact zCA))|refine zAI rfl ?_|refine zAJ rfl ?_|apply zAK|apply eb_n
  all_goals first|omega|skip
  all_goals exact zBP rfl
theorem do_4(m:Img)(c c':CK){k a b:Int}{s:CS}(hd:DoAt m c k ⟨4,a,b⟩ s)(hS:zEL m c c' s true (flo s) (0) (1) (decide (s.of≠-1)) (.d (zBW [k+1]))): DoTo m c c' k:=by
 refine zDC func74 rfl ntmps74 results74 rfl ?_
 intro wb St0 X fx
 refine zCv m c hd wb St0 X fx _ ?_
 obtain⟨hk0,hat0,hst0,hbig,hlen,hh,htr,ha,hb,_⟩:=hd
 have hr0:=(qAA.1 hst0).1
 have hk1:k<(c.at_.length:Int):=by omega
 dsimp only at ha hb
 clear hat0 hst0
 conv=>arg 2;whnf
 repeat' first|apply en_n|apply zAG|apply zAA|apply zAD|apply w0|(refine zCC zA0 zA5 zCL rfl rfl (zAY rfl zAM) rfl)|(refine zCs [0,1,2,3,6,7,4] [4,5,6] rfl rfl zAq (hS) rfl (SArgs_all rfl) rfl rfl (by decide) rfl rfl rfl rfl rfl rfl ?_)|exact zAi rfl rfl|exact zAn rfl rfl|apply ay (hd:=rfl)|exact zAF rfl|exact zAB rfl|refine zBG rfl rfl ?_|exact zAh rfl|refine zAI rfl ?_|refine zAJ rfl ?_|apply zAK|apply eb_n
 all_goals first|omega|skip
 all_goals exact zBP rfl
theorem do_8(m:Img)(c c':CK){k a b:Int}{s:CS}(hd:DoAt m c k ⟨8,a,b⟩ s)(hS:zEL m c c' s true (flo s) (2) (0) (!decide (s.of = -1)&&decide ((s.tries.length:Int)=0)) (.nil)): DoTo m c c' k:=by
 refine zDC func74 rfl ntmps74 results74 rfl ?_
 intro wb St0 X fx
 refine zCv m c hd wb St0 X fx _ ?_
 obtain⟨hk0,hat0,hst0,hbig,hlen,hh,htr,ha,hb,_⟩:=hd
 have hr0:=(qAA.1 hst0).1
 have hk1:k<(c.at_.length:Int):=by omega
 dsimp only at ha hb
 clear hat0 hst0
 conv=>arg 2;whnf
 by_cases q0:s.of = -1
 ·skip
  by_cases q1:(s.tries.length:Int)=0
  ·skip
   rw[show (!decide (s.of = -1)&&decide ((s.tries.length:Int)=0))=false from by first|(rw[decide_eq_true q0,decide_eq_true q1];done)|(rw[decide_eq_true q0,decide_eq_true q1];rfl)]at hS
   repeat' first|apply en_n|apply zAG|apply zAA|apply zAD|apply w0|(refine zCs [0,1,2,3,6,7,4] [4,5,6] rfl rfl zAq (hS) rfl (SArgs_all rfl) rfl rfl (by decide) rfl rfl rfl rfl rfl rfl ?_)|(apply zAE;exact rfl;(first|with_reducible exact zAP|with_reducible exact zAt|with_reducible exact zA1|with_reducible exact zAx|with_reducible exact zAa|with_reducible exact zBB|with_reducible exact zAb);exact rfl;exact rfl)|refine k1u (hd:=rfl) rfl rfl ?_|exact zAi rfl rfl|exact zAn rfl rfl|apply ay (hd:=rfl)|exact zAF rfl|exact zAB rfl|exact zBD rfl zCP|exact zAZ rfl rfl|exact zAV rfl rfl|exact zAh rfl|exact zAC rfl zBv|refine w1 rfl rfl ?_|(apply gD;exact rfl;exact rfl;all_goals intro hb)|refine zAI rfl ?_|refine zAJ rfl ?_|apply zAK|apply eb_n
   all_goals first|omega|skip
   all_goals exact zBP rfl
  ·skip
   rw[show (!decide (s.of = -1)&&decide ((s.tries.length:Int)=0))=false from by first|(rw[decide_eq_true q0,decide_eq_false q1];done)|(rw[decide_eq_true q0,decide_eq_false q1];rfl)]at hS
   repeat' first|apply en_n|apply zAG|apply zAA|apply zAD|apply w0|(refine zCs [0,1,2,3,6,7,4] [4,5,6] rfl rfl zAq (hS) rfl (SArgs_all rfl) rfl rfl (by decide) rfl rfl rfl rfl rfl rfl ?_)|(apply zAE;exact rfl;(first|with_reducible exact zAP|with_reducible exact zAt|with_reducible exact zA1|with_reducible exact zAx|with_reducible exact zAa|with_reducible exact zBB|with_reducible exact zAb);exact rfl;exact rfl)|refine k1u (hd:=rfl) rfl rfl ?_|exact zAi rfl rfl|exact zAn rfl rfl|apply ay (hd:=rfl)|exact zAF rfl|exact zAB rfl|exact zBD rfl zCP|exact zAZ rfl rfl|exact zAV rfl rfl|exact zAh rfl|exact zAC rfl zBv|refine w1 rfl rfl ?_|(apply gD;exact rfl;exact rfl;all_goals intro hb)|refine zAI rfl ?_|refine zAJ rfl ?_|apply zAK|apply eb_n
   all_goals first|omega|skip
   all_goals exact zBP rfl
 ·skip
  by_cases q1:(s.tries.length:Int)=0
  ·skip
   rw[show (!decide (s.of = -1)&&decide ((s.tries.length:Int)=0))=true from by first|(rw[decide_eq_false q0,decide_eq_true q1];done)|(rw[decide_eq_false q0,decide_eq_true q1];rfl)]at hS
   repeat' first|apply en_n|apply zAG|apply zAA|apply zAD|apply w0|(refine zCs [0,1,2,3,6,7,4] [4,5,6] rfl rfl zAq (hS) rfl (SArgs_all rfl) rfl rfl (by decide) rfl rfl rfl rfl rfl rfl ?_)|(apply zAE;exact rfl;(first|with_reducible exact zAP|with_reducible exact zAt|with_reducible exact zA1|with_reducible exact zAx|with_reducible exact zAa|with_reducible exact zBB|with_reducible exact zAb);exact rfl;exact rfl)|refine k1u (hd:=rfl) rfl rfl ?_|exact zAi rfl rfl|exact zAn rfl rfl|apply ay (hd:=rfl)|exact zAF rfl|exact zAB rfl|exact zBD rfl zCP|exact zAZ rfl rfl|exact zAV rfl rfl|exact zAh rfl|exact zAC rfl zBv|refine w1 rfl rfl ?_|(apply gD;exact rfl;exact rfl;all_goals intro hb)|refine zAI rfl ?_|refine zAJ rfl ?_|apply zAK|apply eb_n
   all_goals first|omega|skip
   all_goals exact zBP rfl
  ·skip
   rw[show (!decide (s.of = -1)&&decide ((s.tries.length:Int)=0))=false from by first|(rw[decide_eq_false q0,decide_eq_false q1];done)|(rw[decide_eq_false q0,decide_eq_false q1];rfl)]at hS
   repeat' first|apply en_n|apply zAG|apply zAA|apply zAD|apply w0|(refine zCs [0,1,2,3,6,7,4] [4,5,6] rfl rfl zAq (hS) rfl (SArgs_all rfl) rfl rfl (by decide) rfl rfl rfl rfl rfl rfl ?_)|(apply zAE;exact rfl;(first|with_reducible exact zAP|with_reducible exact zAt|with_reducible exact zA1|with_reducible exact zAx|with_reducible exact zAa|with_reducible exact zBB|with_reducible exact zAb);exact rfl;exact rfl)|refine k1u (hd:=rfl) rfl rfl ?_|exact zAi rfl rfl|exact zAn rfl rfl|apply ay (hd:=rfl)|exact zAF rfl|exact zAB rfl|exact zBD rfl zCP|exact zAZ rfl rfl|exact zAV rfl rfl|exact zAh rfl|exact zAC rfl zBv|refine w1 rfl rfl ?_|(apply gD;exact rfl;exact rfl;all_goals intro hb)|refine zAI rfl ?_|refine zAJ rfl ?_|apply zAK|apply eb_n
   all_goals first|omega|skip
   all_goals exact zBP rfl
theorem do_9(m:Img)(c c':CK){k a b:Int}{s:CS}(hd:DoAt m c k ⟨9,a,b⟩ s)(hS:zEL m c c' s true (flo s) (1) (0) (!decide (s.of = -1)&&decide ((s.tries.length:Int)=0)) (.nil)): DoTo m c c' k:=by
 refine zDC func74 rfl ntmps74 results74 rfl ?_
 intro wb St0 X fx
 refine zCv m c hd wb St0 X fx _ ?_
 obtain⟨hk0,hat0,hst0,hbig,hlen,hh,htr,ha,hb,_⟩:=hd
 have hr0:=(qAA.1 hst0).1
 have hk1:k<(c.at_.length:Int):=by omega
 dsimp only at ha hb
 clear hat0 hst0
 conv=>arg 2;whnf
 by_cases q0:s.of = -1
 ·skip
  by_cases q1:(s.tries.length:Int)=0
  ·skip
   rw[show (!decide (s.of = -1)&&decide ((s.tries.length:Int)=0))=false from by first|(rw[decide_eq_true q0,decide_eq_true q1];done)|(rw[decide_eq_true q0,decide_eq_true q1];rfl)]at hS
   repeat' first|apply en_n|apply zAG|apply zAA|apply zAD|apply w0|(refine zCs [0,1,2,3,6,7,4] [4,5,6] rfl rfl zAq (hS) rfl (SArgs_all rfl) rfl rfl (by decide) rfl rfl rfl rfl rfl rfl ?_)|(apply zAE;exact rfl;(first|with_reducible exact zAP|with_reducible exact zAt|with_reducible exact zA1|with_reducible exact zAx|with_reducible exact zAa|with_reducible exact zBB|with_reducible exact zAb);exact rfl;exact rfl)|refine k1u (hd:=rfl) rfl rfl ?_|exact zAi rfl rfl|exact zAn rfl rfl|apply ay (hd:=rfl)|exact zAF rfl|exact zAB rfl|exact zBD rfl zCP|exact zAZ rfl rfl|exact zAV rfl rfl|exact zAh rfl|exact zAC rfl zBv|refine w1 rfl rfl ?_|(apply gD;exact rfl;exact rfl;all_goals intro hb)|refine zAI rfl ?_|refine zAJ rfl ?_|apply zAK|apply eb_n
   all_goals first|omega|skip
   all_goals exact zBP rfl
  ·skip
   rw[show (!decide (s.of = -1)&&decide ((s.tries.length:Int)=0))=false from by first|(rw[decide_eq_true q0,decide_eq_false q1];done)|(rw[decide_eq_true q0,decide_eq_false q1];rfl)]at hS
   repeat' first|apply en_n|apply zAG|apply zAA|apply zAD|apply w0|(refine zCs [0,1,2,3,6,7,4] [4,5,6] rfl rfl zAq (hS) rfl (SArgs_all rfl) rfl rfl (by decide) rfl rfl rfl rfl rfl rfl ?_)|(apply zAE;exact rfl;(first|with_reducible exact zAP|with_reducible exact zAt|with_reducible exact zA1|with_reducible exact zAx|with_reducible exact zAa|with_reducible exact zBB|with_reducible exact zAb);exact rfl;exact rfl)|refine k1u (hd:=rfl) rfl rfl ?_|exact zAi rfl rfl|exact zAn rfl rfl|apply ay (hd:=rfl)|exact zAF rfl|exact zAB rfl|exact zBD rfl zCP|exact zAZ rfl rfl|exact zAV rfl rfl|exact zAh rfl|exact zAC rfl zBv|refine w1 rfl rfl ?_|(apply gD;exact rfl;exact rfl;all_goals intro hb)|refine zAI rfl ?_|refine zAJ rfl ?_|apply zAK|apply eb_n
   all_goals first|omega|skip
   all_goals exact zBP rfl
 ·skip
  by_cases q1:(s.tries.length:Int)=0
  ·skip
   rw[show (!decide (s.of = -1)&&decide ((s.tries.length:Int)=0))=true from by first|(rw[decide_eq_false q0,decide_eq_true q1];done)|(rw[decide_eq_false q0,decide_eq_true q1];rfl)]at hS
   repeat' first|apply en_n|apply zAG|apply zAA|apply zAD|apply w0|(refine zCs [0,1,2,3,6,7,4] [4,5,6] rfl rfl zAq (hS) rfl (SArgs_all rfl) rfl rfl (by decide) rfl rfl rfl rfl rfl rfl ?_)|(apply zAE;exact rfl;(first|with_reducible exact zAP|with_reducible exact zAt|with_reducible exact zA1|with_reducible exact zAx|with_reducible exact zAa|with_reducible exact zBB|with_reducible exact zAb);exact rfl;exact rfl)|refine k1u (hd:=rfl) rfl rfl ?_|exact zAi rfl rfl|exact zAn rfl rfl|apply ay (hd:=rfl)|exact zAF rfl|exact zAB rfl|exact zBD rfl zCP|exact zAZ rfl rfl|exact zAV rfl rfl|exact zAh rfl|exact zAC rfl zBv|refine w1 rfl rfl ?_|(apply gD;exact rfl;exact rfl;all_goals intro hb)|refine zAI rfl ?_|refine zAJ rfl ?_|apply zAK|apply eb_n
   all_goals first|omega|skip
   all_goals exact zBP rfl
  ·skip
   rw[show (!decide (s.of = -1)&&decide ((s.tries.length:Int)=0))=false from by first|(rw[decide_eq_false q0,decide_eq_false q1];done)|(rw[decide_eq_false q0,decide_eq_false q1];rfl)]at hS
   repeat' first|apply en_n|apply zAG|apply zAA|apply zAD|apply w0|(refine zCs [0,1,2,3,6,7,4] [4,5,6] rfl rfl zAq (hS) rfl (SArgs_all rfl) rfl rfl (by decide) rfl rfl rfl rfl rfl rfl ?_)|(apply zAE;exact rfl;(first|with_reducible exact zAP|with_reducible exact zAt|with_reducible exact zA1|with_reducible exact zAx|with_reducible exact zAa|with_reducible exact zBB|with_reducible exact zAb);exact rfl;exact rfl)|refine k1u (hd:=rfl) rfl rfl ?_|exact zAi rfl rfl|exact zAn rfl rfl|apply ay (hd:=rfl)|exact zAF rfl|exact zAB rfl|exact zBD rfl zCP|exact zAZ rfl rfl|exact zAV rfl rfl|exact zAh rfl|exact zAC rfl zBv|refine w1 rfl rfl ?_|(apply gD;exact rfl;exact rfl;all_goals intro hb)|refine zAI rfl ?_|refine zAJ rfl ?_|apply zAK|apply eb_n
   all_goals first|omega|skip
   all_goals exact zBP rfl
theorem za3(m:Img)(c c':CK){k a b:Int}{s:CS}(hd:DoAt m c k ⟨11,a,b⟩ s)(hS:zEL m c c' s true (flo s) (1) (1) (decide (a<8)) (.d (zBW [k+1]))): DoTo m c c' k:=by
 refine zDC func74 rfl ntmps74 results74 rfl ?_
 intro wb St0 X fx
 refine zCv m c hd wb St0 X fx _ ?_
 obtain⟨hk0,hat0,hst0,hbig,hlen,hh,htr,ha,hb,_⟩:=hd
 have hr0:=(qAA.1 hst0).1
 have hk1:k<(c.at_.length:Int):=by omega
 dsimp only at ha hb
 clear hat0 hst0
 conv=>arg 2;whnf
 by_cases q0:a<8
 ·skip
  rw[show (decide (a<8))=true from by first|(rw[decide_eq_true q0];done)|(rw[decide_eq_true q0];rfl)]at hS
  repeat' first|apply en_n|apply zAG|apply zAA|apply zAD|apply w0|(refine zCC zA0 zA5 zCL rfl rfl (zAY rfl zAM) rfl)|(refine zCs [0,1,2,3,6,7,4] [4,5,6] rfl rfl zAq (hS) rfl (SArgs_all rfl) rfl rfl (by decide) rfl rfl rfl rfl rfl rfl ?_)|(apply zAE;exact rfl;(first|with_reducible exact zAP|with_reducible exact zAt|with_reducible exact zA1|with_reducible exact zAx|with_reducible exact zAa|with_reducible exact zBB|with_reducible exact zAb);exact rfl;exact rfl)|exact zCf rfl rfl|exact zAi rfl rfl|exact zAn rfl rfl|apply ay (hd:=rfl)|exact zAF rfl|exact zAB rfl|refine zBG rfl rfl ?_|exact zAh rfl|exact zAC rfl zAl|refine zAI rfl ?_|refine zAJ rfl ?_|apply zAK|apply eb_n
  all_goals first|omega|skip
  all_goals exact zBP rfl
 ·skip
  rw[show (decide (a<8))=false from by first|(rw[decide_eq_false q0];done)|(rw[decide_eq_false q0];rfl)]at hS
  repeat' first|apply en_n|apply zAG|apply zAA|apply zAD|apply w0|(refine zCC zA0 zA5 zCL rfl rfl (zAY rfl zAM) rfl)|(refine zCs [0,1,2,3,6,7,4] [4,5,6] rfl rfl zAq (hS) rfl (SArgs_all rfl) rfl rfl (by decide) rfl rfl rfl rfl rfl rfl ?_)|(apply zAE;exact rfl;(first|with_reducible exact zAP|with_reducible exact zAt|with_reducible exact zA1|with_reducible exact zAx|with_reducible exact zAa|with_reducible exact zBB|with_reducible exact zAb);exact rfl;exact rfl)|exact zCY rfl rfl|exact zAi rfl rfl|exact zAn rfl rfl|apply ay (hd:=rfl)|exact zAF rfl|exact zAB rfl|refine zBG rfl rfl ?_|exact zAh rfl|exact zAC rfl zAl|refine zAI rfl ?_|refine zAJ rfl ?_|apply zAK|apply eb_n
  all_goals first|omega|skip
  all_goals exact zBP rfl
end Go.Proofs.YtcagoomibpcdlaaGreatDoor
