/- Parts of the proof. -/
import Derived.Test.YtcagoomibpcdlaaGreatDoorMAU
set_option maxHeartbeats 16000000
namespace Go.Proofs.YtcagoomibpcdlaaGreatDoor
open _root_.Go.Proofs.Tryz
open Go.Sx Go.Vm
attribute [local irreducible] zAN Program.underlying Ylds zA9 alex zB3 zBf awp zAi zCC zCB zAU zBl zAz zDt zBq zBj zBB zBr zB2 zB8 zD7 zBi zBd zBg
theorem zWT(m:Img)(r:Raw)(first:Nat)(off n:Nat)(hs:0<=r.size/\r.size<=1048576)(hn:r.now.length+1+n<=r.size)(hb:r.beg.length=r.size)(hl:off+n<=r.stk.length)(hst:r.stk.length<=1048576):
  zAU prog 132 [.ptr 1 0,.d (w64 first),.bsl 5 off n] (MX m r) (.d (.tup [w64 (2*r.now.length),bl true])) (MX m { r with now:=r.now++first::(r.stk.drop off).take n,beg:=r.beg.set r.now.length true }):=by
 have hL:=zJv r.size r.now r.oth r.beg (by omega)
 have hN:=zJu n (by omega)
 have hlt:¬r.size-(r.now.length:Int)<((n+1:Nat):Int):=by omega
 have e1:(r.now++first::(r.stk.drop off).take n).length=r.now.length+1+n:=by
  rw[qAE,qAS,qAJ,qAe];omega
 have e2:w64s (r.now++first::(r.stk.drop off).take n)=(w64s r.now++[w64 first]).take (r.now.length + [w64 first].length)++((w64s r.stk).drop off).take n:=by
  have e0:(w64s r.now++[w64 first]).take (r.now.length+1)=w64s r.now++[w64 first]:=qAi (by simp[w64s])
  show _=(w64s r.now++[w64 first]).take (r.now.length+1)++_
  rw[e0]
  simp[w64s,List.map_drop,List.map_take]
 have e3:bls (r.beg.set r.now.length true)=(bls r.beg).set ((r.now.length:Nat):Int).toNat (D.val (Value.bool true)):=by
  rw[qAj,bls,bls,List.map_set]
 refine zM0 func132 rfl ntmps132 results132 rfl ?_
 intro wb St0 X fx
 repeat' first|apply en_n|apply zAH|apply zAA|apply zAD|apply w0|(apply aApp (id:=2) (hd:=rfl) (hro:=rfl);exact rfl;exact rfl;exact zCW rfl;exact(zAl r.now).symm;exact rfl;(with_reducible exact zCS);(with_reducible exact zBQ);(with_reducible exact zE6);(with_reducible exact zD0);exact zEA rfl)|(apply zR7 (id:=2) (id2:=5) (hd:=rfl) (hro:=rfl);exact rfl;exact rfl;(show r.now.length+1<=_;rw[qAE,zAl];exact qAN _);(intro c;cases c);exact rfl;exact rfl;(rw[zAl];omega);(with_reducible exact zCS);(with_reducible exact zBQ);(with_reducible exact zE6);(with_reducible exact zD0);exact zHA r.stk)|exact zCm rfl rfl|exact zAK rfl|(refine zAW [1,2,3,4] [] rfl rfl zE3 (hL) rfl (SArgs_all rfl) rfl (by decide) rfl rfl rfl rfl)|(refine zAb zEZ hN (zAY rfl zAM))|exact zG1 rfl|exact zGd rfl zCq|(apply zBZ;exact rfl;exact rfl;exact rfl;(with_reducible exact zGm);omega;(rw[zGE];omega))|(refine zGb rfl rfl rfl zAc rfl rfl ?_ rfl ?_)|(apply zD6;exact rfl;(first|with_reducible exact si64|with_reducible exact su64|with_reducible exact zH2|with_reducible exact sint|with_reducible exact sbk);(first|with_reducible exact ui64|with_reducible exact uu64|with_reducible exact zIT|with_reducible exact uint|with_reducible exact ubk))|(apply zMU;exact rfl;exact rfl;exact(by decide))|apply ay (hd:=rfl)|exact zAF rfl|exact zAB rfl|exact zA5 rfl zCq|exact zAG rfl|(apply zAC;exact rfl;(with_reducible first|exact zCv|exact zGi))|(apply zAE;exact rfl;(with_reducible first|exact zBC|exact zIb);exact rfl;exact rfl)|(apply zCI;(with_reducible exact zCS);(with_reducible exact zBQ);(with_reducible exact zGM);exact rfl;exact rfl;(first|exact zAY rfl zAM|exact CoL_b rfl rfl rfl zAM|exact CoL_n rfl zAM);exact rfl)|(refine w0' ?_)|refine zAh rfl rfl rfl zBC rfl rfl rfl rfl ?_|refine zAJ rfl ?_|apply zAS|apply zAQ
 all_goals first|omega|(rw[zGE];omega)|(simp only[qAS,qAv];omega)|skip
 exact zGu (zCJ (RV_d rfl (RV_d rfl zDC rfl) (zI2 (by rw[show (2:Int) ^ min (1:Int).toNat IntKind.u64.bits=2 by decide,zDl,zDl];omega))))
   (zAT Le_nil (zEi rfl rfl rfl rfl rfl rfl rfl (e1.trans rfl) (qAa ..) (congrArg (Ob.buf true _ 1) e2) rfl (congrArg (Ob.buf true _ 1) e3) (zBU rfl) (zBU rfl) (zBU rfl) rfl) rfl rfl)
theorem zSY(m:Img)(r:Raw)(o:Thing)(ho:HeadOk o)(hk:o.kind<=3)(off:Nat)(hs:0<=r.size/\r.size<=1048576)(hn:r.now.length+1+o.size<=r.size)(hm:o.size<=4000)(hb:r.beg.length=r.size)(hl:off+o.size<=r.stk.length)(hst:r.stk.length<=1048576)
  (hv:∀i x,i<o.size->r.stk[off+i]?=some x->zAz prog 131 [.ptr 0 0,.d (w64 x)] (HO r.size r.now r.oth r.beg) (bl true)) :
  zAU prog 78 [.ptr 1 0,.d (i64 o.kind),.d (i64 o.tag),.bsl 5 off o.size] (MX m r) (.d (.tup [w64 (2*r.now.length),bl true])) (MX m { r with now:=r.now++zCt o::(r.stk.drop off).take o.size,beg:=r.beg.set r.now.length true }):=by
 have hP:=zWT m r (zCt o) off o.size hs hn hb hl hst
 have hH:=zRQ o ho
 have hkd:=ho.kind
 have htg:=ho.tag
 have g1:¬o.kind<1:=by omega
 have g2:¬o.kind>3:=by omega
 have g3:¬o.tag<0:=by omega
 have g4:¬o.tag>1048576:=by omega
 have g5:¬(o.size:Int)>4096:=by omega
 refine zM0 func78 rfl ntmps78 results78 rfl ?_
 intro wb St0 X fx
 repeat' first|apply en_n|apply zAH|apply zAA|apply zAD|apply w0|exact zCm rfl rfl|exact zDs rfl rfl|exact zG1 rfl|exact zGd rfl zCq|apply ay (hd:=rfl)|exact zAF rfl|exact zAB rfl|exact zAX rfl rfl|refine w1 rfl rfl ?_|refine zAJ rfl ?_|apply zAL|apply zAS
 refine zBW (α:=Nat) (fun i=>i<=o.size) (fun i=>[(0,.ptr 1 0),(1,.d (i64 o.kind)),(2,.d (i64 o.tag)),(3,.bsl 5 off o.size),(31,.bsl 5 off o.size),(32,.d (i64 (o.size:Int))),(33,.d (i64 (i:Int)))]) (fun _=>MA fx m r) (fun i=>o.size-i) 0 (qAX _)
  (zAT (Le_cons rfl (Le_cons rfl (Le_cons rfl (Le_cons rfl (Le_cons rfl (Le_cons rfl (Le_d rfl rfl Le_nil))))))) (zB5 _) rfl rfl) ?_
 intro i hi
 rcases qAR i o.size with hlt|hge
 ·obtain⟨x,hx⟩:∃x,r.stk[off+i]?=some x:=⟨_,qAB (by omega)⟩
  have hvx:=hv i x hlt hx
  have hx2:(w64s r.stk)[off+((i:Nat):Int).toNat]?=some (w64 x):=by rw[qAj];exact zDe hx
  have hli:(i:Int)<(o.size:Int):=by omega
  clear hv hP
  skip
  repeat' first|apply en_n|apply zAH|apply zAA|apply zAD|apply w0|exact zC9 rfl rfl|(apply zNT;exact rfl;exact rfl;exact rfl;(with_reducible exact zBQ);omega;(rw[zAl];omega))|exact zCl rfl zBO rfl hx2 rfl|(refine zAW [1,2,3,4] [] rfl rfl zJU (hvx) rfl (SArgs_all rfl) rfl (by decide) rfl rfl rfl rfl)|apply ay (hd:=rfl)|exact zAF rfl|exact zAB rfl|refine zBE rfl rfl ?_|exact zBX rfl|exact zAG rfl|refine zAI rfl ?_|refine zAJ rfl ?_|apply zAL|apply zAS|apply eb_n
  all_goals first|omega|skip
  all_goals exact⟨i+1,by omega,by omega,zAT (Le_all rfl) (zB5 _) rfl rfl⟩
 ·have hli:¬(i:Int)<(o.size:Int):=by omega
  clear hv
  skip
  repeat' first|apply en_n|apply zAH|apply zAA|apply zAD|apply w0|exact zCm rfl rfl|exact zG1 rfl|exact zGd rfl zCq|(refine zAb zIM hH (zAY rfl (zAY rfl (zAY rfl zAM))))|(refine aVM zL3 (hP) (SArgs_all rfl) rfl rfl ?_)|apply ay (hd:=rfl)|exact zAF rfl|exact zAB rfl|exact zAg rfl rfl|exact zAG rfl|refine zAJ rfl ?_|apply zAQ|apply zBc|apply en_e|apply eb_e
  all_goals first|omega|skip
  all_goals exact zN3 rfl (zCJ (RV_d rfl (RV_d rfl zDC rfl) rfl))
end Go.Proofs.YtcagoomibpcdlaaGreatDoor
