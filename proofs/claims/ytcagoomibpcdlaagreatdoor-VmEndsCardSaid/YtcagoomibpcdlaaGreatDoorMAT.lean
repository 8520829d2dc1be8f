/- Parts of the proof. -/
import Derived.Test.YtcagoomibpcdlaaGreatDoorMAS
set_option maxHeartbeats 16000000
namespace Go.Proofs.YtcagoomibpcdlaaGreatDoor
open _root_.Go.Proofs.Tryz
open Go.Sx Go.Vm
attribute [local irreducible] zAO Program.underlying Ylds zBE alex zB0 zBk awp zAg zB9 zB8 zAU zBj zA6 zDJ zBl zBn zBC zBq zBz zB7 zDQ zBm zBc zBe
theorem zXC(m:Img)(r:Raw)(first:Nat)(off n:Nat)(hs:0<=r.size/\r.size<=1048576)(hn:r.now.length+1+n<=r.size)(hb:r.beg.length=r.size)(hl:off+n<=r.stk.length)(hst:r.stk.length<=1048576):
  zAU prog 132 [.ptr 1 0,.d (w64 first),.bsl 5 off n] (MX m r) (.d (.tup [w64 (2*r.now.length),bl true])) (MX m { r with now:=r.now++first::(r.stk.drop off).take n,beg:=r.beg.set r.now.length true }):=by
 have hL:=zKN r.size r.now r.oth r.beg (by omega)
 have hN:=zKM n (by omega)
 have hlt:¬r.size-(r.now.length:Int)<((n+1:Nat):Int):=by omega
 have e1:(r.now++first::(r.stk.drop off).take n).length=r.now.length+1+n:=by
  rw[qAD,qAP,qAK,qAb];omega
 have e2:w64s (r.now++first::(r.stk.drop off).take n)=(w64s r.now++[w64 first]).take (r.now.length + [w64 first].length)++((w64s r.stk).drop off).take n:=by
  have e0:(w64s r.now++[w64 first]).take (r.now.length+1)=w64s r.now++[w64 first]:=qAi (by simp[w64s])
  show _=(w64s r.now++[w64 first]).take (r.now.length+1)++_
  rw[e0]
  simp[w64s,List.map_drop,List.map_take]
 have e3:bls (r.beg.set r.now.length true)=(bls r.beg).set ((r.now.length:Nat):Int).toNat (D.val (Value.bool true)):=by
  rw[qAj,bls,bls,qBu]
 refine zNZ func132 rfl ntmps132 results132 rfl ?_
 intro wb St0 X fx
 repeat' first|apply en_n|apply zAG|apply zAA|apply zAD|apply w0|(apply aApp (id:=2) (hd:=rfl) (hro:=rfl);exact rfl;exact rfl;exact zCQ rfl;exact(zAm r.now).symm;exact rfl;(with_reducible exact zCW);(with_reducible exact zBY);(with_reducible exact zFD);(with_reducible exact zD5);exact zDS rfl)|(apply zSv (id:=2) (id2:=5) (hd:=rfl) (hro:=rfl);exact rfl;exact rfl;(show r.now.length+1<=_;rw[qAD,zAm];exact qAN _);(intro c;cases c);exact rfl;exact rfl;(rw[zAm];omega);(with_reducible exact zCW);(with_reducible exact zBY);(with_reducible exact zFD);(with_reducible exact zD5);exact zHN r.stk)|exact zCY rfl rfl|exact zAL rfl|(refine zAX [1,2,3,4] [] rfl rfl zFB (hL) rfl (SArgs_all rfl) rfl (by decide) rfl rfl rfl rfl)|(refine zAd zEi hN (CoLA rfl))|exact zG8 rfl|exact zGl rfl zCq|(apply zBM;exact rfl;exact rfl;exact rfl;(with_reducible exact zGu);omega;(rw[zGJ];omega))|(refine zGf rfl rfl rfl zAb rfl rfl ?_ rfl ?_)|(apply zEA;exact rfl;(first|with_reducible exact si64|with_reducible exact su64|with_reducible exact zII|with_reducible exact sint|with_reducible exact sbk);(first|with_reducible exact ui64|with_reducible exact uu64|with_reducible exact zIl|with_reducible exact uint|with_reducible exact ubk))|(apply zM2;exact rfl;exact rfl;exact(by decide))|apply ay (hd:=rfl)|exact zAF rfl|exact zAB rfl|exact zA3 rfl zCq|exact zAH rfl|(apply zAC;exact rfl;(with_reducible first|exact zCw|exact zGr))|(apply zAE;exact rfl;(with_reducible first|exact zBJ|exact zIq);exact rfl;exact rfl)|(apply zCC;(with_reducible exact zCW);(with_reducible exact zBY);(with_reducible exact zGQ);exact rfl;exact rfl;(first|exact zAY rfl zAM|exact CoL_b rfl rfl rfl zAM|exact CoL_n rfl zAM);exact rfl)|(refine w0' ?_)|refine zAj rfl rfl rfl zBJ rfl rfl rfl rfl ?_|refine zAJ rfl ?_|apply zAR|apply zAQ
 all_goals first|omega|(rw[zGJ];omega)|(simp only[qAP,qAp];omega)|skip
 exact zG0 (zBp (RV_d rfl (RV_d rfl zCh rfl) (zJI (by rw[show (2:Int) ^ min (1:Int).toNat IntKind.u64.bits=2 by decide,zDm,zDm];omega))))
   (zAS Le_nil (zEp rfl rfl rfl rfl rfl rfl rfl (e1.trans rfl) (qAa ..) (congrArg (Ob.buf true _ 1) e2) rfl (congrArg (Ob.buf true _ 1) e3) (zBf rfl) (zBf rfl) (zBf rfl) rfl) rfl rfl)
theorem zTJ(m:Img)(r:Raw)(o:Thing)(ho:HeadOk o)(hk:o.kind<=3)(off:Nat)(hs:0<=r.size/\r.size<=1048576)(hn:r.now.length+1+o.size<=r.size)(hm:o.size<=4000)(hb:r.beg.length=r.size)(hl:off+o.size<=r.stk.length)(hst:r.stk.length<=1048576)
  (hv:∀i x,i<o.size->r.stk[off+i]?=some x->zA6 prog 131 [.ptr 0 0,.d (w64 x)] (HO r.size r.now r.oth r.beg) (bl true)) :
  zAU prog 78 [.ptr 1 0,.d (i64 o.kind),.d (i64 o.tag),.bsl 5 off o.size] (MX m r) (.d (.tup [w64 (2*r.now.length),bl true])) (MX m { r with now:=r.now++zCu o::(r.stk.drop off).take o.size,beg:=r.beg.set r.now.length true }):=by
 have hP:=zXC m r (zCu o) off o.size hs hn hb hl hst
 have hH:=zSC o ho
 have hkd:=ho.kind
 have htg:=ho.tag
 have g1:¬o.kind<1:=by omega
 have g2:¬o.kind>3:=by omega
 have g3:¬o.tag<0:=by omega
 have g4:¬o.tag>1048576:=by omega
 have g5:¬(o.size:Int)>4096:=by omega
 refine zNZ func78 rfl ntmps78 results78 rfl ?_
 intro wb St0 X fx
 repeat' first|apply en_n|apply zAG|apply zAA|apply zAD|apply w0|exact zCY rfl rfl|exact zDx rfl rfl|exact zG8 rfl|exact zGl rfl zCq|apply ay (hd:=rfl)|exact zAF rfl|exact zAB rfl|exact zAV rfl rfl|refine w1 rfl rfl ?_|refine zAJ rfl ?_|apply zAK|apply zAR
 refine zBV (α:=Nat) (fun i=>i<=o.size) (fun i=>[(0,.ptr 1 0),(1,.d (i64 o.kind)),(2,.d (i64 o.tag)),(3,.bsl 5 off o.size),(31,.bsl 5 off o.size),(32,.d (i64 (o.size:Int))),(33,.d (i64 (i:Int)))]) (fun _=>MA fx m r) (fun i=>o.size-i) 0 (qAV _)
  (zAS (Le_cons rfl (Le_cons rfl (Le_cons rfl (Le_cons rfl (Le_cons rfl (Le_cons rfl (Le_d rfl rfl Le_nil))))))) (zBF _) rfl rfl) ?_
 intro i hi
 rcases qAQ i o.size with hlt|hge
 ·obtain⟨x,hx⟩:∃x,r.stk[off+i]?=some x:=⟨_,qAB (by omega)⟩
  have hvx:=hv i x hlt hx
  have hx2:(w64s r.stk)[off+((i:Nat):Int).toNat]?=some (w64 x):=by rw[qAj];exact zDe hx
  have hli:(i:Int)<(o.size:Int):=by omega
  clear hv hP
  skip
  repeat' first|apply en_n|apply zAG|apply zAA|apply zAD|apply w0|exact zCf rfl rfl|(apply zN1;exact rfl;exact rfl;exact rfl;(with_reducible exact zBY);omega;(rw[zAm];omega))|exact zCR rfl zBU rfl hx2 rfl|(refine zAX [1,2,3,4] [] rfl rfl zJw (hvx) rfl (SArgs_all rfl) rfl (by decide) rfl rfl rfl rfl)|apply ay (hd:=rfl)|exact zAF rfl|exact zAB rfl|refine zBG rfl rfl ?_|exact zBS rfl|exact zAH rfl|refine zAI rfl ?_|refine zAJ rfl ?_|apply zAK|apply zAR|apply eb_n
  all_goals first|omega|skip
  all_goals exact⟨i+1,by omega,by omega,zAS (Le_all rfl) (zBF _) rfl rfl⟩
 ·have hli:¬(i:Int)<(o.size:Int):=by omega
  clear hv
  skip
  repeat' first|apply en_n|apply zAG|apply zAA|apply zAD|apply w0|exact zCY rfl rfl|exact zG8 rfl|exact zGl rfl zCq|(refine zAd zIe hH (CoLA rfl))|(refine aVM zMd (hP) (SArgs_all rfl) rfl rfl ?_)|apply ay (hd:=rfl)|exact zAF rfl|exact zAB rfl|exact zAk rfl rfl|exact zAH rfl|refine zAJ rfl ?_|apply zAQ|apply zBX|apply en_e|apply eb_e
  all_goals first|omega|skip
  all_goals exact zOg rfl (zBp (RV_d rfl (RV_d rfl zCh rfl) rfl))
end Go.Proofs.YtcagoomibpcdlaaGreatDoor
