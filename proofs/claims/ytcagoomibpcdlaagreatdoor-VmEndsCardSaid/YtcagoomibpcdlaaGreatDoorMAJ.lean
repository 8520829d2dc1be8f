/- Parts of the proof. -/
import Derived.Test.YtcagoomibpcdlaaGreatDoorMAI
set_option maxHeartbeats 16000000
namespace Go.Proofs.YtcagoomibpcdlaaGreatDoor
open _root_.Go.Proofs.Tryz
open Go.Sx Go.Vm
theorem zDe{l:List Nat}{i:Nat}{x:Nat}(h:l[i]?=some x): (w64s l)[i]?=some (w64 x):=by rw[w64s,qAL,h];rfl
theorem zHe(l:List Nat)(i x:Nat): (w64s l).set i (w64 x)=w64s (l.set i x):=by rw[w64s,w64s,qBu]
theorem zIo(l m:List Nat): w64s l++w64s m=w64s (l++m):=by rw[w64s,w64s,w64s,qAl]
theorem zHN(l:List Nat): ∀d∈w64s l,d.flat.length=1:=fun d hd=>by obtain⟨x,_,rfl⟩:=qBO.1 hd;rfl
theorem zSn(a:Nat)(h:a<=1048576): IntKind.i64.wrap ((((2*a:Nat):Int)).fdiv (2 ^ min (1:Int).toNat IntKind.u64.bits))=(a:Int):=by rw[zZB,zHE];omega
attribute [local irreducible] zAO Program.underlying Ylds zBE alex zB0 zBk awp zAg zB9 zB8 zAU zA6 zBn zBC zBq zBz zB7 zBm zBc zBe
theorem zYW(size:Int)(now other:List Nat)(beg:List Bool){a:Nat}{o:Thing}(h:now[a]?=some (zCu o))(ho:HeadOk o)(hn:now.length<=1048576)(hb:beg[a]?=some true){k:Int}(hk:k>=(if o.kind=4 then 0 else(o.size:Int))): zA6 prog 41 [.ptr 0 0,.d (w64 (2*a)),.d (i64 k)] (HO size now other beg) (.tup [w64 0,bl false]):=by
 have hB:=zJE size now other beg h ho hn hb
 have h0:0<=(if o.kind=4 then 0 else(o.size:Int)):=by split <;> omega
 generalize (if o.kind=4 then 0 else(o.size:Int))=q at *
 have h1:¬k<0:=by omega
 refine zCb func41 rfl ntmps41 results41 rfl ?_
 intro wb St0
 repeat' first|apply en_n|apply zAG|apply zAA|apply zAD|apply w0|exact zCY rfl rfl|exact zHL rfl rfl|(refine zAX [0,1,2,3] [] rfl rfl zCk (hB) rfl (SArgs_all rfl) rfl (by decide) rfl rfl rfl rfl)|apply ay (hd:=rfl)|exact zAF rfl|exact zAB rfl|exact zBS rfl|exact zAV rfl rfl|exact zAk rfl rfl|exact zAH rfl|refine w1 rfl rfl ?_|refine zAI rfl ?_|apply zAQ|apply en_r|apply zAT|(apply res2;exact rfl;exact rfl)
 all_goals rfl
theorem zS7(size:Int)(now other:List Nat)(beg:List Bool){a:Nat}{o:Thing}(h:now[a]?=some (zCu o))(ho:HeadOk o)(hn:now.length<=1048576)(hb:beg[a]?=some true){k x:Nat}(h4:o.kind≠4)(hk:k<o.size)(hx:now[a+1+k]?=some x): zA6 prog 41 [.ptr 0 0,.d (w64 (2*a)),.d (i64 (k:Int))] (HO size now other beg) (.tup [w64 x,bl true]):=by
 have hB:=zJE size now other beg h ho hn hb
 rw[if_neg h4]at hB
 have hl:=(qAA.1 hx).1
 have h1:¬(k:Int)<0:=by omega
 have h2:¬(k:Int)>=(o.size:Int):=by omega
 have h5:=zSn a (by omega)
 refine zCb func41 rfl ntmps41 results41 rfl ?_
 intro wb St0
 repeat' first|apply en_n|apply zAG|apply zAA|apply zAD|apply w0|exact zCY rfl rfl|exact zGm rfl rfl|exact zAL rfl|(refine zAX [0,1,2,3] [] rfl rfl zCk (hB) rfl (SArgs_all rfl) rfl (by decide) rfl rfl rfl rfl)|(apply zEA;exact rfl;(first|with_reducible exact si64|with_reducible exact su64|with_reducible exact zII|with_reducible exact sint|with_reducible exact sbk);(first|with_reducible exact ui64|with_reducible exact uu64|with_reducible exact zIl|with_reducible exact uint|with_reducible exact ubk))|(apply zLj;exact rfl;exact rfl;exact(by decide))|(apply zBM;exact rfl;exact rfl;exact rfl;(with_reducible exact zBY);omega;(rw[zAm];omega))|(apply zCR;exact rfl;(with_reducible exact zBU);exact rfl;(refine(congrArg (fun i=>(w64s now)[i]?) (show Int.toNat _=a+1+k by omega)).trans (zDe hx));exact rfl)|apply ay (hd:=rfl)|exact zAF rfl|exact zAB rfl|refine zBG rfl rfl ?_|exact zBS rfl|exact zAV rfl rfl|exact zAk rfl rfl|exact zAH rfl|exact zAC rfl zCw|exact zAE rfl zBJ rfl rfl|refine w1 rfl rfl ?_|refine zAJ rfl ?_|apply zAR|apply zAQ|apply zAT|(apply res2;exact rfl;exact rfl)
 all_goals first|omega|rfl
theorem zQY(size:Int)(now other:List Nat)(beg:List Bool){a:Nat}{o:Thing}(h:now[a]?=some (zCu o))(ho:HeadOk o)(hn:now.length<=1048576)(hb:beg[a]?=some true){k x w:Nat}(h4:o.kind≠4)(hk:k<o.size)(hx:now[a+1+k]?=some x)(hw:zA6 prog 131 [.ptr 0 0,.d (w64 w)] (HO size now other beg) (bl true)):
  zAU prog 137 [.ptr 0 0,.d (w64 (2*a)),.d (i64 (k:Int)),.d (w64 w)] (HO size now other beg) (.d (bl true)) (HO size (now.set (a+1+k) w) other beg):=by
 have hP:=zS7 size now other beg h ho hn hb h4 hk hx
 have hl:=(qAA.1 hx).1
 have h5:=zSn a (by omega)
 refine zFV func137 rfl ntmps137 results137 rfl rfl rfl ?_
 intro wb St0 X fx
 repeat' first|apply en_n|apply zAG|apply zAA|apply zAD|apply w0|exact zAL rfl|(refine zAX [0,1,2,3] [] rfl rfl zFA (hP) rfl (SArgs_all rfl) rfl (by decide) rfl rfl rfl rfl)|(refine zAX [0,1,2,3] [] rfl rfl zJw (hw) rfl (SArgs_all rfl) rfl (by decide) rfl rfl rfl rfl)|(apply zEA;exact rfl;(first|with_reducible exact si64|with_reducible exact su64|with_reducible exact zII|with_reducible exact sint|with_reducible exact sbk);(first|with_reducible exact ui64|with_reducible exact uu64|with_reducible exact zIl|with_reducible exact uint|with_reducible exact ubk))|(apply zLj;exact rfl;exact rfl;exact(by decide))|(apply zBM;exact rfl;exact rfl;exact rfl;(with_reducible exact zBY);omega;(rw[zAm];omega))|(refine zGf rfl rfl rfl zBU rfl rfl ?_ rfl ?_)|apply ay (hd:=rfl)|exact zAF rfl|exact zAB rfl|refine zBG rfl rfl ?_|exact zBS rfl|exact zAV rfl rfl|exact zAk rfl rfl|exact zAH rfl|exact zAC rfl zCw|exact zAE rfl zBJ rfl rfl|refine w1 rfl rfl ?_|(refine w0' ?_)|refine zAJ rfl ?_|apply zAR|apply zAQ
 all_goals first|omega|skip
 ·rw[zAm];omega
 ·exact zDI (zAS (Le_all rfl) (zAN rfl (show Ob.bx _ _ [.buf 1 (now.set (a+1+k) w).length,_,_,_]=_ by rw[qAa];rfl) (zAo rfl rfl (show w64s (now.set (a+1+k) w)=_ by rw[<-zHe];congr 1;omega) (zAN rfl rfl (zAN rfl rfl zAs)))) rfl rfl)
theorem zZM(size:Int)(now other:List Nat)(beg:List Bool)(first:Nat)(st:List Nat)(off n:Nat)(hs:0<=size/\size<=1048576)(hn:now.length+1+n<=size)(hb:beg.length=size)(hl:off+n<=st.length)(hst:st.length<=1048576):
  zAU prog 132 [.ptr 0 0,.d (w64 first),.bsl 4 off n] (HO size now other beg++[.buf true 58 1 (w64s st)]) (.d (.tup [w64 (2*now.length),bl true])) (HO size (now++first::(st.drop off).take n) other (beg.set now.length true)++[.buf true 58 1 (w64s st)]):=by
 have hL:=zKN size now other beg (by omega)
 have hN:=zKM n (by omega)
 have hlt:¬size-(now.length:Int)<((n+1:Nat):Int):=by omega
 refine zJm func132 rfl ntmps132 results132 rfl rfl rfl ?_
 intro wb St0 X fx
 repeat' first|apply en_n|apply zAG|apply zAA|apply zAD|apply w0|(apply aApp (id:=1) (hd:=rfl) (hro:=rfl);exact rfl;exact rfl;exact zCQ rfl;exact(zAm now).symm;exact rfl;(with_reducible exact zCW);(with_reducible exact zBY);(with_reducible exact zFD);(with_reducible exact zD5);exact zDS rfl)|(apply zSv (id:=1) (id2:=4) (hd:=rfl) (hro:=rfl);exact rfl;exact rfl;(show now.length+1<=_;rw[qAD,zAm];exact qAN _);(intro c;cases c);exact rfl;exact rfl;(rw[zAm];omega);(with_reducible exact zCW);(with_reducible exact zBY);(with_reducible exact zFD);(with_reducible exact zD5);exact zHN st)|exact zCY rfl rfl|exact zAL rfl|(refine zAX [0,1,2,3] [] rfl rfl zFB (hL) rfl (SArgs_all rfl) rfl (by decide) rfl rfl rfl rfl)|(refine zAd zEi hN (CoLA rfl))|exact zG8 rfl|exact zGl rfl zCq|(apply zBM;exact rfl;exact rfl;exact rfl;(with_reducible exact zGu);omega;(rw[zGJ];omega))|(refine zGf rfl rfl rfl zAb rfl rfl ?_ rfl ?_)|(apply zEA;exact rfl;(first|with_reducible exact si64|with_reducible exact su64|with_reducible exact zII|with_reducible exact sint|with_reducible exact sbk);(first|with_reducible exact ui64|with_reducible exact uu64|with_reducible exact zIl|with_reducible exact uint|with_reducible exact ubk))|(apply zM2;exact rfl;exact rfl;exact(by decide))|apply ay (hd:=rfl)|exact zAF rfl|exact zAB rfl|exact zA3 rfl zCq|exact zAH rfl|(apply zAC;exact rfl;(with_reducible first|exact zCw|exact zGr))|(apply zAE;exact rfl;(with_reducible first|exact zBJ|exact zIq);exact rfl;exact rfl)|(apply zCC;(with_reducible exact zCW);(with_reducible exact zBY);(with_reducible exact zGQ);exact rfl;exact rfl;(first|exact zAY rfl zAM|exact CoL_b rfl rfl rfl zAM|exact CoL_n rfl zAM);exact rfl)|(refine w0' ?_)|refine zAj rfl rfl rfl zBJ rfl rfl rfl rfl ?_|refine zAJ rfl ?_|apply zAR|apply zAQ
 all_goals first|omega|skip
 ·rw[zGJ];omega
 ·simp only[qAP,qAp];omega
 ·simp only[qAP,qAp];omega
 ·have e1:(now++first::(st.drop off).take n).length=now.length+1+n:=by
   rw[qAD,qAP,qAK,qAb];omega
  have e2:w64s (now++first::(st.drop off).take n)=(w64s now++[w64 first]).take (now.length + [w64 first].length)++((w64s st).drop off).take n:=by
   have e0:(w64s now++[w64 first]).take (now.length+1)=w64s now++[w64 first]:=qAi (by simp[w64s])
   show _=(w64s now++[w64 first]).take (now.length+1)++_
   rw[e0]
   simp[w64s,List.map_drop,List.map_take]
  have e3:bls (beg.set now.length true)=(bls beg).set ((now.length:Nat):Int).toNat (D.val (Value.bool true)):=by
   rw[qAj,bls,bls,qBu]
  exact zG0 (zBp (RV_d rfl (RV_d rfl zCh rfl) (zJI (by rw[show (2:Int) ^ min (1:Int).toNat IntKind.u64.bits=2 by decide,zDm,zDm];omega))))
   (zAS Le_nil (zAN rfl (show Ob.bx _ _ [.buf 1 (now++first::(st.drop off).take n).length,_,_,.buf 3 (beg.set now.length true).length]=_ by rw[qAa,e1];rfl) (zAo rfl rfl e2 (zAN rfl rfl (zAo rfl rfl e3 (zAN rfl rfl zAs))))) rfl rfl)
end Go.Proofs.YtcagoomibpcdlaaGreatDoor
namespace Go.Proofs.YtcagoomibpcdlaaGreatDoor
open Go.Sx Go.Vm
abbrev HX(size:Int)(now other:List Nat)(beg:List Bool)(st:List Nat): List Ob:=HO size now other beg++[Ob.buf true 58 1 (w64s st)]
attribute [local irreducible] zAO Program.underlying Ylds zBE alex zB0 zBk awp zAg zB9 zB8 zAU zA6 zBn zBC zBq zBz zB7 zBm zBc zBe
end Go.Proofs.YtcagoomibpcdlaaGreatDoor
