import Derived.Test.YtcagoomibpcdlaaGreatDoorMBH
import Derived.Test.YtcagoomibpcdlaaGreatDoorMBM
import Derived.Test.YtcagoomibpcdlaaGreatDoorMBT
set_option maxHeartbeats 16000000
namespace Go.Proofs.YtcagoomibpcdlaaGreatDoor
open Go.Sx Go.Vm
section
attribute [local irreducible] zAL Program.underlying Ylds zA2 alex zBZ zBP awp zAb zBh zBg zAW zBF zAp zCO zBG zBR zAr zBV zBY zBe zCQ zBM zA8 zBE JFit
theorem sp_2(m:Img)(s:St)(k:Nat)(b:Int)(hk:k<s.stack.length)(hS:Sml s): SpTo m s 2 (k:Int) b (s.push (s.top k)):=by
 intro wb St0
 have hT:=zFB m s k hk hS
 have hP:=zKb m s (s.top k) hS
 generalize s.push (s.top k)=s' at *
 generalize s.top k=r at *
 unfold smD rfD at *
 conv=>arg 2;whnf
 skip
 exact yH
theorem sp_4(m:Img)(s:St)(a b:Int)(hS:Sml s): SpTo m s 4 a b (s.push s.c.fun_):=by
 intro wb St0
 have hP:=zKb m s s.c.fun_ hS
 generalize s.push s.c.fun_=s' at *
 unfold smD rfD at *
 conv=>arg 2;whnf
 skip
 exact yA
theorem zch(m:Img)(s:St)(tl:Bool)(a b:Int)(h2:2<=s.stack.length)(hr:RfIn s.all.length (s.top 1))(hb:0<=s.c.base/\s.c.base<=s.stack.length)(hS:Sml s): SpTo m s (if tl then 8 else 7) a b (s.app tl):=by
 intro wb St0
 have hA:=zbX m s tl h2 hr hb hS
 generalize s.app tl=s' at *
 unfold smD at *
 conv=>arg 2;whnf
 cases tl
 all_goals
  simp only[if_true,if_false,qBK]
  exact yH
theorem zed(m:Img)(s:St)(a b:Int)(hp:0<=a/\a<=13)(h2:(takes a).toNat<=s.stack.length)(hV:MVal s): SpTo m s 12 a b (s.prim shw a):=by
 intro wb St0
 have hA:=zX6 m s a hp h2 hV
 generalize s.prim shw a=s' at *
 unfold smD at *
 conv=>arg 2;whnf
 skip
 exact yH
open _root_.Go.Proofs.Tryz
theorem sp_6(m:Img)(s:St)(k:Nat)(b:Int)(hk:k+1<=s.stack.length)(hS:Sml s): SpTo m s 6 (k:Int) b (s.instead (k+1) (s.top 0)):=by
 intro wb St0
 have h1:=hS.stack
 have hT:=zFB m s 0 (by omega) hS
 have hP:=zEF m s (k+1) (s.top 0) hk hS
 replace hT:zAb prog 31 [smD m s,i64 0] (rfD (s.top 0)):=hT
 replace hP:zAb prog 62 [smD m s,i64 ((k:Int)+1),rfD (s.top 0)] (smD m (s.instead (k+1) (s.top 0))):=hP
 generalize s.instead (k+1) (s.top 0)=s' at *
 generalize s.top 0=r at *
 unfold smD rfD at *
 conv=>arg 2;whnf
 skip
 exact yH
theorem zQc(m:Img)(s:St)(op q a:Int)(n:Nat)(ho:op=10/\q=1\/op=18/\q=2)(hn:n<=s.stack.length)(hM:MSml s): SpTo m s op a (n:Int) (s.block ⟨q,a,[],s.partsT n⟩ n):=by
 intro wb St0
 have hS:=hM.toSml
 have hP:=zOz m s n hn hS
 have hB:=zJb m s ⟨q,a,[],s.partsT n⟩ n hM hn (by show (0:Nat)<=_;omega) (by show (s.stack.drop _).length<=_;have:=hS.stack;rw[qAd];omega)
 replace hB:zAb prog 59 [smD m s,.agg [i64 q,i64 a,str [],.slice ((s.partsT n).map rfD)],i64 (n:Int)] (smD m (s.block ⟨q,a,[],s.partsT n⟩ n)):=hB
 generalize s.block ⟨q,a,[],s.partsT n⟩ n=s' at *
 generalize s.partsT n=ps at *
 unfold smD at *
 conv=>arg 2;whnf
 rcases ho with⟨h,h'⟩|⟨h,h'⟩ <;> subst h <;> subst h'
 all_goals
  exact yB
theorem zea(m:Img)(s:St)(a b:Int): SpTo m s 15 a b (s.goto a):=by
 intro wb St0
 unfold smD St.goto
 conv=>arg 2;whnf
 skip
 exact yA
end
section
attribute [local irreducible] zAL Program.underlying Ylds zA2 alex zBZ zBP awp zAb zBh zBg zAW zBF zAp zCO zBG zBR zAr zBV zBY zBe zCQ zBM zA8 zBE JFit
theorem sp_5(m:Img)(s:St)(k:Nat)(b:Int)(hk:k<=s.stack.length)(hS:Sml s): SpTo m s 5 (k:Int) b { s with stack:=s.stack.take (s.stack.length-k) }:=by
 intro wb St0
 have h1:=hS.stack
 have e:s.stack.take (s.stack.length-k)=s.stack.take ((s.stack.length:Int)-(k:Int)).toNat:=by rw[show ((s.stack.length:Int)-(k:Int)).toNat=s.stack.length-k by omega]
 have hcp:((s.stack.take ((s.stack.length:Int)-(k:Int)).toNat).map rfD).length*16<=140737488355328/\((s.stack.take ((s.stack.length:Int)-(k:Int)).toNat).map rfD).length<=140737488355328:=by rw[qAC,qAG];omega
 rw[e]
 unfold smD
 conv=>arg 2;whnf
 skip
 exact yA
theorem zeb(m:Img)(s:St)(a b:Int)(hk:0<s.tries.length)(hS:Sml s): SpTo m s 14 a b { s with tries:=s.tries.dropLast }:=by
 intro wb St0
 have h1:=hS.tries
 have e:s.tries.dropLast=s.tries.take ((s.tries.length:Int)-1).toNat:=by rw[qBF,show ((s.tries.length:Int)-1).toNat=s.tries.length-1 by omega]
 have hcp:((s.tries.take ((s.tries.length:Int)-1).toNat).map tyD).length*48<=140737488355328/\((s.tries.take ((s.tries.length:Int)-1).toNat).map tyD).length<=140737488355328:=by rw[qAC,qAG];omega
 rw[e]
 unfold smD
 conv=>arg 2;whnf
 skip
 exact yH
end
section
open _root_.Go.Proofs.Tryz
theorem zTi{m:Img}(him:ImgOk m): (zHv conF m).isSome = !(ckT conF m).bad:=by
 have h1:=zR7 (con:=conF) him
 have h2:=zVS (con:=conF) (m:=m) him
 cases hb:(ckT conF m).bad with
 |true =>
  cases hs:(zHv conF m).isSome with
  |true=>have:=h2.2 (h1.1 hs);rw[hb]at this;cases this
  |false=>rfl
 |false =>
  cases hs:(zHv conF m).isSome with
  |true=>rfl
  |false=>have:=h1.2 (h2.1 hb);rw[hs]at this;cases this
attribute [local irreducible] zAL Program.underlying Ylds zA2 alex zBZ zBP awp zAb zBh zBg zAW zBF zAp zCO zBG zBR zAr zBV zBY zBe zCQ zBM zA8 zBE JFit
theorem zSF(m:Img)(hE:m.code.length<=2000000): zAb prog 12 [zCs m] (i64 (verE m)):=by
 have hI:=zOH m hE
 refine zAj func12 rfl ntmps12 results12 rfl ?_
 intro wb St0
 unfold verE
 by_cases h0:imgE m=0
 ·have him:=zJW h0
  have hS:=zSG m him _ rfl
  rw[zTi him]at hS
  rw[h0]at hI
  rw[if_neg (by omega)]
  generalize ((zHv conF m).getD []).map stD=row at hS
  unfold zCs at *
  cases hb:(ckT conF m).bad
  all_goals
   rw[hb]at hS
   exact yN
 ·rw[if_pos h0]
  generalize imgE m=e at *
  unfold zCs at *
  skip
  exact yN
