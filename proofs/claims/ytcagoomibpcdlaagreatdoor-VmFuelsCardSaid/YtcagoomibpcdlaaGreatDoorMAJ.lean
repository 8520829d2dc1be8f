/- Texts of this claim, merged: VmJ, VmK. -/
import Derived.Test.YtcagoomibpcdlaaGreatDoorMAI
namespace Go.Proofs.YtcagoomibpcdlaaGreatDoor
open Go.Sx Go.Vm
theorem zDS{l:List Nat}{i:Nat}{x:Nat}(h:l[i]?=some x): (w64s l)[i]?=some (w64 x):=by rw[w64s,List.getElem?_map,h];rfl
theorem zHE(l:List Nat)(i x:Nat): (w64s l).set i (w64 x)=w64s (l.set i x):=by rw[w64s,w64s,List.map_set]
theorem zIG(l m:List Nat): w64s l++w64s m=w64s (l++m):=by rw[w64s,w64s,w64s,List.map_append]
theorem zGv(l:List Nat): ∀d∈w64s l,d.flat.length=1:=fun d hd=>by obtain⟨x,_,rfl⟩:=List.mem_map.1 hd;rfl
theorem zRM(a:Nat)(h:a≤1048576): IntKind.i64.wrap ((((2*a:Nat):Int)).fdiv (2 ^ min (1:Int).toNat IntKind.u64.bits))=(a:Int):=by rw[zXe,zGn];omega
attribute [local irreducible] zAQ Program.underlying Ylds zBD alex zCA zBi awp zAp zCI zCH zAW zA5 zBp zBF zBv zB9 zCE zBn zBm zBs
theorem zWw(size:Int)(now other:List Nat)(beg:List Bool){a:Nat}{o:Thing}(h:now[a]?=some (zCm o))(ho:HeadOk o)(hn:now.length≤1048576)(hb:beg[a]?=some true){k:Int}(hk:k≥(if o.kind=4 then 0 else(o.size:Int))): zA5 Tryz.prog 41 [.ptr 0 0,.d (w64 (2*a)),.d (i64 k)] (HO size now other beg) (.tup [w64 0,bl false]):=by
 have hB:=zIe size now other beg h ho hn hb
 have h0:0≤(if o.kind=4 then 0 else(o.size:Int)):=by split <;> omega
 generalize (if o.kind=4 then 0 else(o.size:Int))=q at *
 have h1:¬k<0:=by omega
 refine zCW Tryz.func41 rfl Tryz.ntmps41 Tryz.results41 rfl ?_
 intro wb St0
 repeat' first|apply en_n|apply zAK|apply zAA|apply zAF|apply w0|(apply zCk;exact rfl;exact rfl;first|assumption|omega)|(apply zJW;exact rfl;exact rfl;first|assumption|omega)|(refine zAZ [0,1,2,3] [] rfl rfl zCc (hB) rfl ?_ rfl (by decide) rfl rfl rfl rfl;(repeat (refine zAB rfl ?_));exact zAE)|apply ay (hd:=rfl)|exact zAJ rfl|exact zAD rfl|exact zBd rfl|exact zAc rfl rfl|exact zAm rfl rfl|exact zAH rfl|(apply w1;exact rfl;exact rfl)|(apply zAL;exact rfl)|apply zAT|apply en_r|apply zAY|(apply res2;exact rfl;exact rfl)
 all_goals rfl
theorem zRi(size:Int)(now other:List Nat)(beg:List Bool){a:Nat}{o:Thing}(h:now[a]?=some (zCm o))(ho:HeadOk o)(hn:now.length≤1048576)(hb:beg[a]?=some true){k x:Nat}(h4:o.kind≠4)(hk:k<o.size)(hx:now[a+1+k]?=some x): zA5 Tryz.prog 41 [.ptr 0 0,.d (w64 (2*a)),.d (i64 (k:Int))] (HO size now other beg) (.tup [w64 x,bl true]):=by
 have hB:=zIe size now other beg h ho hn hb
 rw[if_neg h4]at hB
 have hl:=(List.getElem?_eq_some_iff.1 hx).1
 have h1:¬(k:Int)<0:=by omega
 have h2:¬(k:Int)≥(o.size:Int):=by omega
 have h5:=zRM a (by omega)
 refine zCW Tryz.func41 rfl Tryz.ntmps41 Tryz.results41 rfl ?_
 intro wb St0
 repeat' first|apply en_n|apply zAK|apply zAA|apply zAF|apply w0|(apply zCk;exact rfl;exact rfl;first|assumption|omega)|(apply zH8;exact rfl;exact rfl;first|assumption|omega)|exact zAN rfl|(refine zAZ [0,1,2,3] [] rfl rfl zCc (hB) rfl ?_ rfl (by decide) rfl rfl rfl rfl;(repeat (refine zAB rfl ?_));exact zAE)|(apply zD5;exact rfl;(first|with_reducible exact si64|with_reducible exact su64|with_reducible exact zHl|with_reducible exact sint|with_reducible exact sbk);(first|with_reducible exact ui64|with_reducible exact uu64|with_reducible exact zIC|with_reducible exact uint|with_reducible exact ubk))|(apply zKs;exact rfl;exact rfl;exact(by decide))|(apply zBY;exact rfl;exact rfl;exact rfl;(with_reducible exact zBS);omega;(rw[zAk];omega))|(apply zCg;exact rfl;(with_reducible exact zBQ);exact rfl;(refine(congrArg (fun i=>(w64s now)[i]?) (show Int.toNat _=a+1+k by omega)).trans (zDS hx));exact rfl)|apply ay (hd:=rfl)|exact zAJ rfl|exact zAD rfl|(apply zBL;exact rfl;exact rfl)|exact zBd rfl|exact zAc rfl rfl|exact zAm rfl rfl|exact zAH rfl|(apply zAC;exact rfl;(with_reducible exact zCo))|(apply zAG;exact rfl;(with_reducible exact zBC);exact rfl;exact rfl)|(apply w1;exact rfl;exact rfl)|(apply zAM;exact rfl)|apply zAU|apply zAT|apply zAY|(apply res2;exact rfl;exact rfl)
 all_goals first|omega|rfl
theorem zPI(size:Int)(now other:List Nat)(beg:List Bool){a:Nat}{o:Thing}(h:now[a]?=some (zCm o))(ho:HeadOk o)(hn:now.length≤1048576)(hb:beg[a]?=some true){k x w:Nat}(h4:o.kind≠4)(hk:k<o.size)(hx:now[a+1+k]?=some x)(hw:zA5 Tryz.prog 131 [.ptr 0 0,.d (w64 w)] (HO size now other beg) (bl true)):
  zAW Tryz.prog 137 [.ptr 0 0,.d (w64 (2*a)),.d (i64 (k:Int)),.d (w64 w)] (HO size now other beg) (.d (bl true)) (HO size (now.set (a+1+k) w) other beg):=by
 have hP:=zRi size now other beg h ho hn hb h4 hk hx
 have hl:=(List.getElem?_eq_some_iff.1 hx).1
 have h5:=zRM a (by omega)
 refine zFB Tryz.func137 rfl Tryz.ntmps137 Tryz.results137 rfl rfl rfl ?_
 intro wb St0 X fx
 repeat' first|apply en_n|apply zAK|apply zAA|apply zAF|apply w0|exact zAN rfl|(refine zAZ [0,1,2,3] [] rfl rfl zEn (hP) rfl ?_ rfl (by decide) rfl rfl rfl rfl;(repeat (refine zAB rfl ?_));exact zAE)|(refine zAZ [0,1,2,3] [] rfl rfl zJE (hw) rfl ?_ rfl (by decide) rfl rfl rfl rfl;(repeat (refine zAB rfl ?_));exact zAE)|(apply zD5;exact rfl;(first|with_reducible exact si64|with_reducible exact su64|with_reducible exact zHl|with_reducible exact sint|with_reducible exact sbk);(first|with_reducible exact ui64|with_reducible exact uu64|with_reducible exact zIC|with_reducible exact uint|with_reducible exact ubk))|(apply zKs;exact rfl;exact rfl;exact(by decide))|(apply zBY;exact rfl;exact rfl;exact rfl;(with_reducible exact zBS);omega;(rw[zAk];omega))|(refine zGH rfl rfl rfl zBQ rfl rfl ?_ rfl ?_)|apply ay (hd:=rfl)|exact zAJ rfl|exact zAD rfl|(apply zBL;exact rfl;exact rfl)|exact zBd rfl|exact zAc rfl rfl|exact zAm rfl rfl|exact zAH rfl|(apply zAC;exact rfl;(with_reducible exact zCo))|(apply zAG;exact rfl;(with_reducible exact zBC);exact rfl;exact rfl)|(apply w1;exact rfl;exact rfl)|(refine w0' ?_)|(apply zAM;exact rfl)|apply zAU|apply zAT
 all_goals first|omega|skip
 ·rw[zAk];omega
 ·exact zC8 (zAV (zAI rfl zAd) (zAP rfl (show Ob.bx _ _ [.buf 1 (now.set (a+1+k) w).length,_,_,_]=_ by rw[List.length_set];rfl) (zAo rfl rfl (show w64s (now.set (a+1+k) w)=_ by rw[←zHE];congr 1;omega) (zAP rfl rfl (zAP rfl rfl zA7)))) rfl rfl)
theorem zXp(size:Int)(now other:List Nat)(beg:List Bool)(first:Nat)(st:List Nat)(off n:Nat)(hs:0≤size∧size≤1048576)(hn:now.length+1+n≤size)(hb:beg.length=size)(hl:off+n≤st.length)(hst:st.length≤1048576):
  zAW Tryz.prog 132 [.ptr 0 0,.d (w64 first),.bsl 4 off n] (HO size now other beg++[.buf true 58 1 (w64s st)]) (.d (.tup [w64 (2*now.length),bl true])) (HO size (now++first::(st.drop off).take n) other (beg.set now.length true)++[.buf true 58 1 (w64s st)]):=by
 have hL:=zJc size now other beg (by omega)
 have hN:=zJb n (by omega)
 have hlt:¬size-(now.length:Int)<((n+1:Nat):Int):=by omega
 refine zI3 Tryz.func132 rfl Tryz.ntmps132 Tryz.results132 rfl rfl rfl ?_
 intro wb St0 X fx
 repeat' first|apply en_n|apply zAK|apply zAA|apply zAF|apply w0|(apply aApp (id:=1) (hd:=rfl) (hro:=rfl);exact rfl;exact rfl;exact zCw rfl;exact(zAk now).symm;exact rfl;(with_reducible exact zCT);(with_reducible exact zBS);(with_reducible exact zEr);(with_reducible exact zDm);exact zDv rfl)|(apply zRT (id:=1) (id2:=4) (hd:=rfl) (hro:=rfl);exact rfl;exact rfl;(show now.length+1≤_;rw[List.length_append,zAk];exact Nat.le_refl _);(intro c;cases c);exact rfl;exact rfl;(rw[zAk];omega);(with_reducible exact zCT);(with_reducible exact zBS);(with_reducible exact zEr);(with_reducible exact zDm);exact zGv st)|(apply zCk;exact rfl;exact rfl;first|assumption|omega)|exact zAN rfl|(refine zAZ [0,1,2,3] [] rfl rfl zEo (hL) rfl ?_ rfl (by decide) rfl rfl rfl rfl;(repeat (refine zAB rfl ?_));exact zAE)|(refine zAh zER hN (zAa rfl zAR))|exact zGi rfl|(apply zGL;exact rfl;(with_reducible exact zCj))|(apply zBY;exact rfl;exact rfl;exact rfl;(with_reducible exact zGV);omega;(rw[zFv];omega))|(refine zGH rfl rfl rfl zAg rfl rfl ?_ rfl ?_)|(apply zD5;exact rfl;(first|with_reducible exact si64|with_reducible exact su64|with_reducible exact zHl|with_reducible exact sint|with_reducible exact sbk);(first|with_reducible exact ui64|with_reducible exact uu64|with_reducible exact zIC|with_reducible exact uint|with_reducible exact ubk))|(apply zL1;exact rfl;exact rfl;exact(by decide))|apply ay (hd:=rfl)|exact zAJ rfl|exact zAD rfl|(apply zA4;exact rfl;(with_reducible exact zCj))|exact zAH rfl|(apply zAC;exact rfl;(with_reducible first|exact zCo|exact zGS))|(apply zAG;exact rfl;(with_reducible first|exact zBC|exact zII);exact rfl;exact rfl)|(apply zCG;(with_reducible exact zCT);(with_reducible exact zBS);(with_reducible exact zF0);exact rfl;exact rfl;(first|exact zAa rfl zAR|exact CoL_b rfl rfl rfl zAR|exact CoL_n rfl zAR);exact rfl)|(refine w0' ?_)|(apply zAl;exact rfl;exact rfl;exact rfl;(with_reducible exact zBC);exact rfl;exact rfl;exact rfl;exact rfl)|(apply zAM;exact rfl)|apply zAU|apply zAT
 all_goals first|omega|skip
 ·rw[zFv];omega
 ·simp only[List.length_cons,List.length_nil];omega
 ·simp only[List.length_cons,List.length_nil];omega
 ·have e1:(now++first::(st.drop off).take n).length=now.length+1+n:=by
   rw[List.length_append,List.length_cons,List.length_take,List.length_drop];omega
  have e2:w64s (now++first::(st.drop off).take n)=(w64s now++[w64 first]).take (now.length + [w64 first].length)++((w64s st).drop off).take n:=by
   have e0:(w64s now++[w64 first]).take (now.length+1)=w64s now++[w64 first]:=List.take_of_length_le (by simp[w64s])
   show _=(w64s now++[w64 first]).take (now.length+1)++_
   rw[e0]
   simp[w64s,List.map_drop,List.map_take]
  have e3:bls (beg.set now.length true)=(bls beg).set ((now.length:Nat):Int).toNat (D.val (Value.bool true)):=by
   rw[Int.toNat_natCast,bls,bls,List.map_set]
  exact zGb (zCJ (RV_d rfl (RV_d rfl zC6 rfl) (zIj (by rw[show (2:Int) ^ min (1:Int).toNat IntKind.u64.bits=2 by decide,zDZ,zDZ];omega))))
   (zAV zAd (zAP rfl (show Ob.bx _ _ [.buf 1 (now++first::(st.drop off).take n).length,_,_,.buf 3 (beg.set now.length true).length]=_ by rw[List.length_set,e1];rfl) (zAo rfl rfl e2 (zAP rfl rfl (zAo rfl rfl e3 (zAP rfl rfl zA7))))) rfl rfl)
end Go.Proofs.YtcagoomibpcdlaaGreatDoor
namespace Go.Proofs.YtcagoomibpcdlaaGreatDoor
open Go.Sx Go.Vm
abbrev HX(size:Int)(now other:List Nat)(beg:List Bool)(st:List Nat): List Ob:=HO size now other beg++[Ob.buf true 58 1 (w64s st)]
attribute [local irreducible] zAQ Program.underlying Ylds zBD alex zCA zBi awp zAp zCI zCH zAW zA5 zBp zBF zBv zB9 zCE zBn zBm zBs
end Go.Proofs.YtcagoomibpcdlaaGreatDoor
