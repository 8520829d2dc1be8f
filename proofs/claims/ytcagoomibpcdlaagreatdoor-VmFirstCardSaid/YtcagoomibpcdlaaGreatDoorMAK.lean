/- Parts of the proof. -/
import Derived.Test.YtcagoomibpcdlaaGreatDoorMAJ
set_option maxHeartbeats 16000000
namespace Go.Proofs.YtcagoomibpcdlaaGreatDoor
open _root_.Go.Proofs.Tryz
open Go.Sx Go.Vm
theorem zDe{l:List Nat}{i:Nat}{x:Nat}(h:l[i]?=some x): (w64s l)[i]?=some (w64 x):=by rw[w64s,qAL,h];rfl
theorem zHU(l:List Nat)(i x:Nat): (w64s l).set i (w64 x)=w64s (l.set i x):=by rw[w64s,w64s,List.map_set]
theorem zIZ(l m:List Nat): w64s l++w64s m=w64s (l++m):=by rw[w64s,w64s,w64s,qAk]
theorem zHA(l:List Nat): ∀d∈w64s l,d.flat.length=1:=fun d hd=>by obtain⟨x,_,rfl⟩:=qBE.1 hd;rfl
theorem zRz(a:Nat)(h:a<=1048576): IntKind.i64.wrap ((((2*a:Nat):Int)).fdiv (2 ^ min (1:Int).toNat IntKind.u64.bits))=(a:Int):=by rw[zYT,zG5];omega
attribute [local irreducible] zAN Program.underlying Ylds zA9 alex zB3 zBf awp zAi zCC zCB zAU zAz zBj zBB zBr zB2 zB8 zBi zBd zBg
theorem zXn(size:Int)(now other:List Nat)(beg:List Bool){a:Nat}{o:Thing}(h:now[a]?=some (zCt o))(ho:HeadOk o)(hn:now.length<=1048576)(hb:beg[a]?=some true){k:Int}(hk:k>=(if o.kind=4 then 0 else(o.size:Int))): zAz prog 41 [.ptr 0 0,.d (w64 (2*a)),.d (i64 k)] (HO size now other beg) (.tup [w64 0,bl false]):=by
 have hB:=zIy size now other beg h ho hn hb
 have h0:0<=(if o.kind=4 then 0 else(o.size:Int)):=by split <;> omega
 generalize (if o.kind=4 then 0 else(o.size:Int))=q at *
 have h1:¬k<0:=by omega
 refine zCX func41 rfl ntmps41 results41 rfl ?_
 intro wb St0
 repeat' first|apply en_n|apply zAH|apply zAA|apply zAD|apply w0|exact zCm rfl rfl|exact zJo rfl rfl|(refine zAW [0,1,2,3] [] rfl rfl zCi (hB) rfl (SArgs_all rfl) rfl (by decide) rfl rfl rfl rfl)|apply ay (hd:=rfl)|exact zAF rfl|exact zAB rfl|exact zBX rfl|exact zAX rfl rfl|exact zAg rfl rfl|exact zAG rfl|refine w1 rfl rfl ?_|refine zAI rfl ?_|apply zAQ|apply en_r|apply zAR|(apply res2;exact rfl;exact rfl)
 all_goals rfl
theorem zSM(size:Int)(now other:List Nat)(beg:List Bool){a:Nat}{o:Thing}(h:now[a]?=some (zCt o))(ho:HeadOk o)(hn:now.length<=1048576)(hb:beg[a]?=some true){k x:Nat}(h4:o.kind≠4)(hk:k<o.size)(hx:now[a+1+k]?=some x): zAz prog 41 [.ptr 0 0,.d (w64 (2*a)),.d (i64 (k:Int))] (HO size now other beg) (.tup [w64 x,bl true]):=by
 have hB:=zIy size now other beg h ho hn hb
 rw[if_neg h4]at hB
 have hl:=(qAA.1 hx).1
 have h1:¬(k:Int)<0:=by omega
 have h2:¬(k:Int)>=(o.size:Int):=by omega
 have h5:=zRz a (by omega)
 refine zCX func41 rfl ntmps41 results41 rfl ?_
 intro wb St0
 repeat' first|apply en_n|apply zAH|apply zAA|apply zAD|apply w0|exact zCm rfl rfl|exact zIP rfl rfl|exact zAK rfl|(refine zAW [0,1,2,3] [] rfl rfl zCi (hB) rfl (SArgs_all rfl) rfl (by decide) rfl rfl rfl rfl)|(apply zD6;exact rfl;(first|with_reducible exact si64|with_reducible exact su64|with_reducible exact zH2|with_reducible exact sint|with_reducible exact sbk);(first|with_reducible exact ui64|with_reducible exact uu64|with_reducible exact zIT|with_reducible exact uint|with_reducible exact ubk))|(apply zLE;exact rfl;exact rfl;exact(by decide))|(apply zBZ;exact rfl;exact rfl;exact rfl;(with_reducible exact zBQ);omega;(rw[zAl];omega))|(apply zCl;exact rfl;(with_reducible exact zBO);exact rfl;(refine(congrArg (fun i=>(w64s now)[i]?) (show Int.toNat _=a+1+k by omega)).trans (zDe hx));exact rfl)|apply ay (hd:=rfl)|exact zAF rfl|exact zAB rfl|refine zBE rfl rfl ?_|exact zBX rfl|exact zAX rfl rfl|exact zAg rfl rfl|exact zAG rfl|exact zAC rfl zCv|exact zAE rfl zBC rfl rfl|refine w1 rfl rfl ?_|refine zAJ rfl ?_|apply zAS|apply zAQ|apply zAR|(apply res2;exact rfl;exact rfl)
 all_goals first|omega|rfl
theorem zPv(size:Int)(now other:List Nat)(beg:List Bool){a:Nat}{o:Thing}(h:now[a]?=some (zCt o))(ho:HeadOk o)(hn:now.length<=1048576)(hb:beg[a]?=some true){k x w:Nat}(h4:o.kind≠4)(hk:k<o.size)(hx:now[a+1+k]?=some x)(hw:zAz prog 131 [.ptr 0 0,.d (w64 w)] (HO size now other beg) (bl true)):
  zAU prog 137 [.ptr 0 0,.d (w64 (2*a)),.d (i64 (k:Int)),.d (w64 w)] (HO size now other beg) (.d (bl true)) (HO size (now.set (a+1+k) w) other beg):=by
 have hP:=zSM size now other beg h ho hn hb h4 hk hx
 have hl:=(qAA.1 hx).1
 have h5:=zRz a (by omega)
 refine zFR func137 rfl ntmps137 results137 rfl rfl rfl ?_
 intro wb St0 X fx
 repeat' first|apply en_n|apply zAH|apply zAA|apply zAD|apply w0|exact zAK rfl|(refine zAW [0,1,2,3] [] rfl rfl zE2 (hP) rfl (SArgs_all rfl) rfl (by decide) rfl rfl rfl rfl)|(refine zAW [0,1,2,3] [] rfl rfl zJU (hw) rfl (SArgs_all rfl) rfl (by decide) rfl rfl rfl rfl)|(apply zD6;exact rfl;(first|with_reducible exact si64|with_reducible exact su64|with_reducible exact zH2|with_reducible exact sint|with_reducible exact sbk);(first|with_reducible exact ui64|with_reducible exact uu64|with_reducible exact zIT|with_reducible exact uint|with_reducible exact ubk))|(apply zLE;exact rfl;exact rfl;exact(by decide))|(apply zBZ;exact rfl;exact rfl;exact rfl;(with_reducible exact zBQ);omega;(rw[zAl];omega))|(refine zGb rfl rfl rfl zBO rfl rfl ?_ rfl ?_)|apply ay (hd:=rfl)|exact zAF rfl|exact zAB rfl|refine zBE rfl rfl ?_|exact zBX rfl|exact zAX rfl rfl|exact zAg rfl rfl|exact zAG rfl|exact zAC rfl zCv|exact zAE rfl zBC rfl rfl|refine w1 rfl rfl ?_|(refine w0' ?_)|refine zAJ rfl ?_|apply zAS|apply zAQ
 all_goals first|omega|skip
 ·rw[zAl];omega
 ·exact zDF (zAT (Le_all rfl) (zAO rfl (show Ob.bx _ _ [.buf 1 (now.set (a+1+k) w).length,_,_,_]=_ by rw[qAa];rfl) (zAn rfl rfl (show w64s (now.set (a+1+k) w)=_ by rw[<-zHU];congr 1;omega) (zAO rfl rfl (zAO rfl rfl zAt)))) rfl rfl)
theorem zYe(size:Int)(now other:List Nat)(beg:List Bool)(first:Nat)(st:List Nat)(off n:Nat)(hs:0<=size/\size<=1048576)(hn:now.length+1+n<=size)(hb:beg.length=size)(hl:off+n<=st.length)(hst:st.length<=1048576):
  zAU prog 132 [.ptr 0 0,.d (w64 first),.bsl 4 off n] (HO size now other beg++[.buf true 58 1 (w64s st)]) (.d (.tup [w64 (2*now.length),bl true])) (HO size (now++first::(st.drop off).take n) other (beg.set now.length true)++[.buf true 58 1 (w64s st)]):=by
 have hL:=zJv size now other beg (by omega)
 have hN:=zJu n (by omega)
 have hlt:¬size-(now.length:Int)<((n+1:Nat):Int):=by omega
 refine zJL func132 rfl ntmps132 results132 rfl rfl rfl ?_
 intro wb St0 X fx
 repeat' first|apply en_n|apply zAH|apply zAA|apply zAD|apply w0|(apply aApp (id:=1) (hd:=rfl) (hro:=rfl);exact rfl;exact rfl;exact zCW rfl;exact(zAl now).symm;exact rfl;(with_reducible exact zCS);(with_reducible exact zBQ);(with_reducible exact zE6);(with_reducible exact zD0);exact zEA rfl)|(apply zR7 (id:=1) (id2:=4) (hd:=rfl) (hro:=rfl);exact rfl;exact rfl;(show now.length+1<=_;rw[qAE,zAl];exact qAN _);(intro c;cases c);exact rfl;exact rfl;(rw[zAl];omega);(with_reducible exact zCS);(with_reducible exact zBQ);(with_reducible exact zE6);(with_reducible exact zD0);exact zHA st)|exact zCm rfl rfl|exact zAK rfl|(refine zAW [0,1,2,3] [] rfl rfl zE3 (hL) rfl (SArgs_all rfl) rfl (by decide) rfl rfl rfl rfl)|(refine zAb zEZ hN (zAY rfl zAM))|exact zG1 rfl|exact zGd rfl zCq|(apply zBZ;exact rfl;exact rfl;exact rfl;(with_reducible exact zGm);omega;(rw[zGE];omega))|(refine zGb rfl rfl rfl zAc rfl rfl ?_ rfl ?_)|(apply zD6;exact rfl;(first|with_reducible exact si64|with_reducible exact su64|with_reducible exact zH2|with_reducible exact sint|with_reducible exact sbk);(first|with_reducible exact ui64|with_reducible exact uu64|with_reducible exact zIT|with_reducible exact uint|with_reducible exact ubk))|(apply zMU;exact rfl;exact rfl;exact(by decide))|apply ay (hd:=rfl)|exact zAF rfl|exact zAB rfl|exact zA5 rfl zCq|exact zAG rfl|(apply zAC;exact rfl;(with_reducible first|exact zCv|exact zGi))|(apply zAE;exact rfl;(with_reducible first|exact zBC|exact zIb);exact rfl;exact rfl)|(apply zCI;(with_reducible exact zCS);(with_reducible exact zBQ);(with_reducible exact zGM);exact rfl;exact rfl;(first|exact zAY rfl zAM|exact CoL_b rfl rfl rfl zAM|exact CoL_n rfl zAM);exact rfl)|(refine w0' ?_)|refine zAh rfl rfl rfl zBC rfl rfl rfl rfl ?_|refine zAJ rfl ?_|apply zAS|apply zAQ
 all_goals first|omega|skip
 ·rw[zGE];omega
 ·simp only[qAS,qAv];omega
 ·simp only[qAS,qAv];omega
 ·have e1:(now++first::(st.drop off).take n).length=now.length+1+n:=by
   rw[qAE,qAS,qAJ,qAe];omega
  have e2:w64s (now++first::(st.drop off).take n)=(w64s now++[w64 first]).take (now.length + [w64 first].length)++((w64s st).drop off).take n:=by
   have e0:(w64s now++[w64 first]).take (now.length+1)=w64s now++[w64 first]:=qAi (by simp[w64s])
   show _=(w64s now++[w64 first]).take (now.length+1)++_
   rw[e0]
   simp[w64s,List.map_drop,List.map_take]
  have e3:bls (beg.set now.length true)=(bls beg).set ((now.length:Nat):Int).toNat (D.val (Value.bool true)):=by
   rw[qAj,bls,bls,List.map_set]
  exact zGu (zCJ (RV_d rfl (RV_d rfl zDC rfl) (zI2 (by rw[show (2:Int) ^ min (1:Int).toNat IntKind.u64.bits=2 by decide,zDl,zDl];omega))))
   (zAT Le_nil (zAO rfl (show Ob.bx _ _ [.buf 1 (now++first::(st.drop off).take n).length,_,_,.buf 3 (beg.set now.length true).length]=_ by rw[qAa,e1];rfl) (zAn rfl rfl e2 (zAO rfl rfl (zAn rfl rfl e3 (zAO rfl rfl zAt))))) rfl rfl)
end Go.Proofs.YtcagoomibpcdlaaGreatDoor
namespace Go.Proofs.YtcagoomibpcdlaaGreatDoor
open Go.Sx Go.Vm
abbrev HX(size:Int)(now other:List Nat)(beg:List Bool)(st:List Nat): List Ob:=HO size now other beg++[Ob.buf true 58 1 (w64s st)]
attribute [local irreducible] zAN Program.underlying Ylds zA9 alex zB3 zBf awp zAi zCC zCB zAU zAz zBj zBB zBr zB2 zB8 zBi zBd zBg
end Go.Proofs.YtcagoomibpcdlaaGreatDoor
