/- Texts of this claim, merged: VmBI. -/
import Derived.Test.YtcagoomibpcdlaaGreatDoorMAT
namespace Go.Proofs.YtcagoomibpcdlaaGreatDoor
open Go.Sx Go.Vm
attribute [local irreducible] zAQ Program.underlying Ylds zBD alex zCA zBi awp zAp zCI zCH zAW zBw zA5 zD4 zB0 zBp zBF zBv zB9 zCE zES zBn zBm zBs
theorem zVf(m:Img)(r:Raw)(first:Nat)(off n:Nat)(hs:0≤r.size∧r.size≤1048576)(hn:r.now.length+1+n≤r.size)(hb:r.beg.length=r.size)(hl:off+n≤r.stk.length)(hst:r.stk.length≤1048576):
  zAW Tryz.prog 132 [.ptr 1 0,.d (w64 first),.bsl 5 off n] (MX m r) (.d (.tup [w64 (2*r.now.length),bl true])) (MX m { r with now:=r.now++first::(r.stk.drop off).take n,beg:=r.beg.set r.now.length true }):=by
 have hL:=zJc r.size r.now r.oth r.beg (by omega)
 have hN:=zJb n (by omega)
 have hlt:¬r.size-(r.now.length:Int)<((n+1:Nat):Int):=by omega
 have e1:(r.now++first::(r.stk.drop off).take n).length=r.now.length+1+n:=by
  rw[List.length_append,List.length_cons,List.length_take,List.length_drop];omega
 have e2:w64s (r.now++first::(r.stk.drop off).take n)=(w64s r.now++[w64 first]).take (r.now.length + [w64 first].length)++((w64s r.stk).drop off).take n:=by
  have e0:(w64s r.now++[w64 first]).take (r.now.length+1)=w64s r.now++[w64 first]:=List.take_of_length_le (by simp[w64s])
  show _=(w64s r.now++[w64 first]).take (r.now.length+1)++_
  rw[e0]
  simp[w64s,List.map_drop,List.map_take]
 have e3:bls (r.beg.set r.now.length true)=(bls r.beg).set ((r.now.length:Nat):Int).toNat (D.val (Value.bool true)):=by
  rw[Int.toNat_natCast,bls,bls,List.map_set]
 refine zMW Tryz.func132 rfl Tryz.ntmps132 Tryz.results132 rfl ?_
 intro wb St0 X fx
 repeat' first|apply en_n|apply zAK|apply zAA|apply zAF|apply w0|(apply aApp (id:=2) (hd:=rfl) (hro:=rfl);exact rfl;exact rfl;exact zCw rfl;exact(zAk r.now).symm;exact rfl;(with_reducible exact zCT);(with_reducible exact zBS);(with_reducible exact zEr);(with_reducible exact zDm);exact zDv rfl)|(apply zRT (id:=2) (id2:=5) (hd:=rfl) (hro:=rfl);exact rfl;exact rfl;(show r.now.length+1≤_;rw[List.length_append,zAk];exact Nat.le_refl _);(intro c;cases c);exact rfl;exact rfl;(rw[zAk];omega);(with_reducible exact zCT);(with_reducible exact zBS);(with_reducible exact zEr);(with_reducible exact zDm);exact zGv r.stk)|(apply zCk;exact rfl;exact rfl;first|assumption|omega)|exact zAN rfl|(refine zAZ [1,2,3,4] [] rfl rfl zEo (hL) rfl ?_ rfl (by decide) rfl rfl rfl rfl;(repeat (refine zAB rfl ?_));exact zAE)|(refine zAh zER hN (zAa rfl zAR))|exact zGi rfl|(apply zGL;exact rfl;(with_reducible exact zCj))|(apply zBY;exact rfl;exact rfl;exact rfl;(with_reducible exact zGV);omega;(rw[zFv];omega))|(refine zGH rfl rfl rfl zAg rfl rfl ?_ rfl ?_)|(apply zD5;exact rfl;(first|with_reducible exact si64|with_reducible exact su64|with_reducible exact zHl|with_reducible exact sint|with_reducible exact sbk);(first|with_reducible exact ui64|with_reducible exact uu64|with_reducible exact zIC|with_reducible exact uint|with_reducible exact ubk))|(apply zL1;exact rfl;exact rfl;exact(by decide))|apply ay (hd:=rfl)|exact zAJ rfl|exact zAD rfl|(apply zA4;exact rfl;(with_reducible exact zCj))|exact zAH rfl|(apply zAC;exact rfl;(with_reducible first|exact zCo|exact zGS))|(apply zAG;exact rfl;(with_reducible first|exact zBC|exact zII);exact rfl;exact rfl)|(apply zCG;(with_reducible exact zCT);(with_reducible exact zBS);(with_reducible exact zF0);exact rfl;exact rfl;(first|exact zAa rfl zAR|exact CoL_b rfl rfl rfl zAR|exact CoL_n rfl zAR);exact rfl)|(refine w0' ?_)|(apply zAl;exact rfl;exact rfl;exact rfl;(with_reducible exact zBC);exact rfl;exact rfl;exact rfl;exact rfl)|(apply zAM;exact rfl)|apply zAU|apply zAT
 all_goals first|omega|(rw[zFv];omega)|(simp only[List.length_cons,List.length_nil];omega)|skip
 exact zGb (zCJ (RV_d rfl (RV_d rfl zC6 rfl) (zIj (by rw[show (2:Int) ^ min (1:Int).toNat IntKind.u64.bits=2 by decide,zDZ,zDZ];omega))))
   (zAV zAd (zEb rfl rfl rfl rfl rfl rfl rfl (e1.trans rfl) (List.length_set ..) (congrArg (Ob.buf true _ 1) e2) rfl (congrArg (Ob.buf true _ 1) e3) (zBW rfl) (zBW rfl) (zBW rfl) rfl) rfl rfl)
theorem zRu(m:Img)(r:Raw)(o:Thing)(ho:HeadOk o)(hk:o.kind≤3)(off:Nat)(hs:0≤r.size∧r.size≤1048576)(hn:r.now.length+1+o.size≤r.size)(hm:o.size≤4000)(hb:r.beg.length=r.size)(hl:off+o.size≤r.stk.length)(hst:r.stk.length≤1048576)
  (hv:∀i x,i<o.size→r.stk[off+i]?=some x→zA5 Tryz.prog 131 [.ptr 0 0,.d (w64 x)] (HO r.size r.now r.oth r.beg) (bl true)) :
  zAW Tryz.prog 78 [.ptr 1 0,.d (i64 o.kind),.d (i64 o.tag),.bsl 5 off o.size] (MX m r) (.d (.tup [w64 (2*r.now.length),bl true])) (MX m { r with now:=r.now++zCm o::(r.stk.drop off).take o.size,beg:=r.beg.set r.now.length true }):=by
 have hP:=zVf m r (zCm o) off o.size hs hn hb hl hst
 have hH:=zQp o ho
 have hkd:=ho.kind
 have htg:=ho.tag
 have g1:¬o.kind<1:=by omega
 have g2:¬o.kind>3:=by omega
 have g3:¬o.tag<0:=by omega
 have g4:¬o.tag>1048576:=by omega
 have g5:¬(o.size:Int)>4096:=by omega
 refine zMW Tryz.func78 rfl Tryz.ntmps78 Tryz.results78 rfl ?_
 intro wb St0 X fx
 repeat' first|apply en_n|apply zAK|apply zAA|apply zAF|apply w0|(apply zCk;exact rfl;exact rfl;first|assumption|omega)|(apply zDt;exact rfl;exact rfl;first|assumption|omega)|exact zGi rfl|(apply zGL;exact rfl;(with_reducible exact zCj))|apply ay (hd:=rfl)|exact zAJ rfl|exact zAD rfl|exact zAc rfl rfl|(apply w1;exact rfl;exact rfl)|(apply zAM;exact rfl)|apply zAO|apply zAU
 refine zBo (α:=Nat) (fun i=>i≤o.size) (fun i=>[(0,.ptr 1 0),(1,.d (i64 o.kind)),(2,.d (i64 o.tag)),(3,.bsl 5 off o.size),(31,.bsl 5 off o.size),(32,.d (i64 (o.size:Int))),(33,.d (i64 (i:Int)))]) (fun _=>MA fx m r) (fun i=>o.size-i) 0 (Nat.zero_le _)
  (zAV (zAI rfl (zAI rfl (zAI rfl (zAI rfl (zAI rfl (zAI rfl (Le_d rfl rfl zAd))))))) (zB2 _) rfl rfl) ?_
 intro i hi
 rcases Nat.lt_or_ge i o.size with hlt|hge
 ·obtain⟨x,hx⟩:∃x,r.stk[off+i]?=some x:=⟨_,List.getElem?_eq_getElem (by omega)⟩
  have hvx:=hv i x hlt hx
  have hx2:(w64s r.stk)[off+((i:Nat):Int).toNat]?=some (w64 x):=by rw[Int.toNat_natCast];exact zDS hx
  have hli:(i:Int)<(o.size:Int):=by omega
  clear hv hP
  skip
  repeat' first|apply en_n|apply zAK|apply zAA|apply zAF|apply w0|(apply zC9;exact rfl;exact rfl;first|assumption|omega)|(apply zMy;exact rfl;exact rfl;exact rfl;(with_reducible exact zBS);omega;(rw[zAk];omega))|(apply zCg;exact rfl;(with_reducible exact zBQ);exact rfl;exact hx2;exact rfl)|(refine zAZ [1,2,3,4] [] rfl rfl zJE (hvx) rfl ?_ rfl (by decide) rfl rfl rfl rfl;(repeat (refine zAB rfl ?_));exact zAE)|apply ay (hd:=rfl)|exact zAJ rfl|exact zAD rfl|(apply zBL;exact rfl;exact rfl)|exact zBd rfl|exact zAH rfl|(apply zAL;exact rfl)|(apply zAM;exact rfl)|apply zAO|apply zAU|apply eb_n
  all_goals first|omega|skip
  all_goals exact⟨i+1,by omega,by omega,zAV (zAI rfl (zAI rfl (zAI rfl (zAI rfl (zAI rfl (zAI rfl (zAI rfl zAd))))))) (zB2 _) rfl rfl⟩
 ·have hli:¬(i:Int)<(o.size:Int):=by omega
  clear hv
  skip
  repeat' first|apply en_n|apply zAK|apply zAA|apply zAF|apply w0|(apply zCk;exact rfl;exact rfl;first|assumption|omega)|exact zGi rfl|(apply zGL;exact rfl;(with_reducible exact zCj))|(refine zAh zH5 hH (zAa rfl (zAa rfl (zAa rfl zAR))))|(refine aVM zLb (hP) ?_ rfl rfl ?_;(repeat (refine zAB rfl ?_));exact zAE)|apply ay (hd:=rfl)|exact zAJ rfl|exact zAD rfl|exact zAm rfl rfl|exact zAH rfl|(apply zAM;exact rfl)|apply zAT|apply zBu|apply en_e|apply eb_e
  all_goals first|omega|skip
  all_goals exact zNY rfl (zCJ (RV_d rfl (RV_d rfl zC6 rfl) rfl))
end Go.Proofs.YtcagoomibpcdlaaGreatDoor
