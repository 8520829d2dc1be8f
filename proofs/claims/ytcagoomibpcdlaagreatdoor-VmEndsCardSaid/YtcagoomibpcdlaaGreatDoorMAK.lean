/- Parts of the proof. -/
import Derived.Test.YtcagoomibpcdlaaGreatDoorMAJ
set_option maxHeartbeats 16000000
namespace Go.Proofs.YtcagoomibpcdlaaGreatDoor
open _root_.Go.Proofs.Tryz
open Go.Sx Go.Vm
abbrev HM(size:Int)(now other:List Nat)(beg be:List Bool): List Ob:=HO size now other beg++[Ob.bx none (some 4) ((bls be).map .d)]
theorem zZx{l:List Bool}{i:Int}(h:i.toNat<l.length): Nat.ble (i.toNat+1) ((bls l).map SV.d).length=true:=Nat.ble_eq_true_of_le (by rw[qAC,zGJ];omega)
theorem zZw(l:List Bool)(i:Nat)(h:i<l.length): ((bls l).map SV.d).take i++[.d (bl true)]++((bls l).map SV.d).drop (i+1)=(bls (l.set i true)).map SV.d:=by
 rw[bls,bls,qBu,qBu,qBV,if_pos (by simp;exact h)];simp
theorem zT4{f:SV->SV}(hf:∀d,f (.d d)=.d d)(L:List D): (L.map SV.d).map f=L.map SV.d:=by
 rw[qBt];exact qBZ fun d _=>hf d
theorem zJa(m:Nat)(L:List D): (L.map SV.d).all (SV.bel m)=true:=by
 rw[List.all_map];exact qAX.2 fun d _=>rfl
theorem zIy(i:Nat)(k:Option Nat)(et:Option TypeId)(L:List D): Ob.kill i (.bx k et (L.map SV.d))=.bx k et (L.map SV.d):=congrArg (Ob.bx k et) (zT4 (fun _=>rfl) L)
theorem zW2(ids:List Nat)(k:Option Nat)(et:Option TypeId)(L:List D): Ob.ren ids (.bx k et (L.map SV.d))=.bx k et (L.map SV.d):=congrArg (Ob.bx k et) (zT4 (fun _=>rfl) L)
theorem zNA(k k' et:Option Nat)(a b e:Nat)(c:D)(o1 o2 o3:Nat×List D)(L:List D): [Ob.bx k none [.buf 1 a,.buf 2 b,.d c,.buf 3 e],.buf true o1.1 1 o1.2,.buf true o2.1 1 o2.2,.buf true o3.1 1 o3.2,.bx k' et (L.map SV.d)].all (Ob.below 5)=true:=by
 simp only[List.all_cons,List.all_nil,Ob.below,zJa];rfl
attribute [local irreducible] zAO Program.underlying Ylds zBE alex zB0 zBk awp zAg zB9 zB8 zAU zA6 zBn zBC zBq zBz zB7 zBm zBc zBe
theorem zTj(x:Nat)(h:x<18446744073709551616): zAg prog 99 [w64 x] (.tup [i64 ((x%8:Nat):Int),i64 ((x / 65536:Nat):Int),i64 ((x / 8%8192:Nat):Int)]):=by
 have e1:=zVx _ h
 have e2:=zVg x
 have e3:=zWx x
 have e4:=zSd (x / 8) (by omega)
 refine zDU func99 rfl ntmps99 results99 rfl ?_
 intro wb St0
 repeat' first|apply en_n|apply zAG|apply zAA|apply zAD|apply w0|(refine zBQ ?_)|(refine zBp ?_)|exact zCh|(refine RV_d rfl ?_ ?_)|(apply zEA;exact rfl;(first|with_reducible exact si64|with_reducible exact su64|with_reducible exact zII|with_reducible exact sint|with_reducible exact sbk);(first|with_reducible exact ui64|with_reducible exact uu64|with_reducible exact zIl|with_reducible exact uint|with_reducible exact ubk))|(apply zLj;exact rfl;exact rfl;exact(by decide))|exact zM5 rfl rfl|apply ay (hd:=rfl)|exact zAF rfl|exact zAB rfl|apply zAQ
 all_goals first|rfl|skip
 ·rw[e3,e4,zHE];refine congrArg (fun x=>D.val (.int .i64 x)) ?_;omega
 ·rw[e2,zHE];refine congrArg (fun x=>D.val (.int .i64 x)) ?_;omega
 ·rw[e1,zHE];refine congrArg (fun x=>D.val (.int .i64 x)) ?_;omega
theorem zUc(size:Int)(now other:List Nat)(beg be:List Bool){w:Nat}(h:w%2=1)(hw:w<18446744073709551616):
  zBj prog 153 [.ptr 0 0,.d (w64 w)] 4 be.length (HM size now other beg be) (.d (w64 w)) (HM size now other beg be):=by
 have h1:=zP2 w hw
 have h2:IntKind.u64.wrap (BitVec.ofInt IntKind.u64.bits (w:Int) &&& BitVec.ofInt IntKind.u64.bits 1).toNat=1:=by rw[h1];omega
 have ha:=zSm size now other beg h hw
 refine zJn func153 rfl ntmps153 results153 rfl rfl rfl ?_
 intro wb St0 X fx
 repeat' first|apply en_n|apply zAG|apply zAA|apply zAD|apply w0|exact zAi rfl rfl|exact zM5 rfl rfl|(refine zAX [0,1,2,3] [] rfl rfl zGG (ha) rfl (SArgs_all rfl) rfl (by decide) rfl rfl rfl rfl)|apply ay (hd:=rfl)|exact zAF rfl|exact zAB rfl|exact zBS rfl|exact zAk rfl rfl|exact zAH rfl|refine zAI rfl ?_|apply zAQ|apply en_r
 all_goals exact zDI (zAS (Le_all rfl) (zAN rfl rfl (zAN rfl rfl (zAN rfl rfl (zAN rfl rfl (zAN rfl rfl zAs))))) rfl (zNA _ _ _ _ _ _ _ (_,_) (_,_) (_,_) _))
theorem zUb(size:Int)(now other:List Nat)(beg be:List Bool){a k:Nat}(h:now[a]?=some (8*k))(hk:k<=1048576)(hn:now.length<=1048576)(hb:beg[a]?=some true):
  zBj prog 153 [.ptr 0 0,.d (w64 (2*a))] 4 be.length (HM size now other beg be) (.d (w64 (2*k))) (HM size now other beg be):=by
 have hl:=(qAA.1 h).1
 have ha:=zVF size now other beg hl hn hb
 have ht:=zTj (8*k) (by omega)
 have h0:((8*k%8:Nat):Int)=0:=by omega
 refine zJn func153 rfl ntmps153 results153 rfl rfl rfl ?_
 intro wb St0 X fx
 repeat' first|apply en_n|apply zAG|apply zAA|apply zAD|apply w0|exact zAi rfl rfl|exact zAL rfl|(apply zM2;exact rfl;exact rfl;exact(by decide))|(apply zLj;exact rfl;exact rfl;exact(by decide))|(refine zAX [0,1,2,3] [] rfl rfl zGG (ha) rfl (SArgs_all rfl) rfl (by decide) rfl rfl rfl rfl)|(refine zAd zEh ht (CoLA rfl))|(apply zBM;exact rfl;exact rfl;exact rfl;(with_reducible exact zBY);omega;(rw[zAm];omega))|(apply zCR;exact rfl;(with_reducible exact zBU);exact rfl;(show (w64s now)[Int.toNat _]?=some (w64 (8*k));rw[qAj];exact zDe h);exact rfl)|apply ay (hd:=rfl)|exact zAF rfl|exact zAB rfl|exact zBS rfl|exact zAk rfl rfl|exact zAH rfl|exact zAC rfl zCw|exact zAE rfl zBJ rfl rfl|refine zAI rfl ?_|refine zAJ rfl ?_|apply zAR|apply zAQ|apply en_r
 all_goals exact zDI (zAS (Le_d rfl (by refine(zJI ?_).symm;rw[zWx,show (2:Int) ^ min (1:Int).toNat IntKind.u64.bits=2 by decide,zDm];omega) Le_nil) (zAN rfl rfl (zAN rfl rfl (zAN rfl rfl (zAN rfl rfl (zAN rfl rfl zAs))))) rfl (zNA _ _ _ _ _ _ _ (_,_) (_,_) (_,_) _))
theorem zUd(size:Int)(now other:List Nat)(beg be:List Bool){a:Nat}{o:Thing}(h:now[a]?=some (zCu o))(ho:HeadOk o)(hk:1<=o.kind)(hb:beg[a]?=some true)(hs:a+1+o.size<=now.length)(hn:now.length<=1048576)(hbe:other.length<be.length)(hot:other.length<=1048576):
  zBj prog 153 [.ptr 0 0,.d (w64 (2*a))] 4 be.length (HM size now other beg be) (.d (w64 (2*other.length))) (HM size (now.set a (8*other.length)) (other++(now.drop a).take (o.size+1)) beg (be.set other.length true)):=by
 have hl:=(qAA.1 h).1
 have ha:=zVF size now other beg hl hn hb
 have ht:=zNM o ho
 have h0:¬o.kind=0:=by omega
 have hz:o.size<=1048576:=by omega
 refine zJn func153 rfl ntmps153 results153 rfl rfl rfl ?_
 intro wb St0 X fx
 repeat' first|(refine zQN (rid:=12) [.ptr 0 0,.ptr 0 0,.ptr 0 0,.ptr 0 1,.buf 2 other.length,.ptr 0 0,.ptr 0 0,.ptr 0 0,.buf 1 now.length,.d (i64 (a:Int)),.d (i64 (a:Int)),.d (i64 ((a:Int)+1)),.d (i64 (o.size:Int)),.d (i64 ((a:Int)+1+(o.size:Int))),.bsl 1 ((a:Int)).toNat (((a:Int)+1+(o.size:Int)).toNat-((a:Int)).toNat),.top] 15 2 (by kernel_rfl) (by kernel_rfl) rfl rfl rfl (.inr (by kernel_rfl)) ⟨.inr ⟨⟨rfl,zAH rfl⟩,rfl,rfl,.inr ⟨rfl,rfl,zAH rfl⟩⟩,⟨.inr ⟨⟨rfl,zAH rfl⟩,rfl,rfl,.inl (by kernel_rfl)⟩,⟨.inr ⟨⟨rfl,zAL rfl⟩,rfl,rfl,.inl (by kernel_rfl)⟩,⟨.inr ⟨⟨rfl,zAC rfl zD6⟩,rfl,rfl,.inl (by kernel_rfl)⟩,⟨.inr ⟨⟨rfl,zAE rfl zBJ rfl rfl⟩,rfl,rfl,.inl (by kernel_rfl)⟩,⟨.inr ⟨⟨rfl,zAH rfl⟩,rfl,rfl,.inl (by kernel_rfl)⟩,⟨.inr ⟨⟨rfl,zAL rfl⟩,rfl,rfl,.inl (by kernel_rfl)⟩,⟨.inr ⟨⟨rfl,zAC rfl zCw⟩,rfl,rfl,.inl (by kernel_rfl)⟩,⟨.inr ⟨⟨rfl,zAE rfl zBJ rfl rfl⟩,rfl,rfl,.inl (by kernel_rfl)⟩,⟨.inr ⟨⟨rfl,zAF rfl⟩,rfl,rfl,.inl (by kernel_rfl)⟩,⟨.inr ⟨⟨rfl,zAF rfl⟩,rfl,rfl,.inl (by kernel_rfl)⟩,⟨.inr ⟨⟨rfl,zBG rfl rfl (by omega)⟩,rfl,rfl,.inl (by kernel_rfl)⟩,⟨.inr ⟨⟨rfl,zAF rfl⟩,rfl,rfl,.inl (by kernel_rfl)⟩,⟨.inr ⟨⟨rfl,zBG rfl rfl (by omega)⟩,rfl,rfl,.inl (by kernel_rfl)⟩,⟨.inr ⟨⟨rfl,zYJ rfl rfl zBY rfl rfl (by omega) (by rw[zAm];omega)⟩,rfl,rfl,.inl (by kernel_rfl)⟩,⟨.inl rfl,trivial⟩⟩⟩⟩⟩⟩⟩⟩⟩⟩⟩⟩⟩⟩⟩⟩ rfl rfl rfl rfl (by rw[zAm];omega) (by rw[zAm];omega) (fun c=>by cases c) zCW zBY zFD zD5 (zHN now) (by omega) rfl rfl ?_)|apply en_n|apply zAG|apply zAA|apply zAD|apply w0|(refine zBs (by kernel_rfl) ?_;apply zAj;exact rfl;exact rfl;exact rfl;(with_reducible exact zBJ);exact rfl;exact rfl;exact rfl;exact rfl)|exact zAn rfl rfl|exact zAL rfl|(apply zM2;exact rfl;exact rfl;exact(by decide))|(apply zEA;exact rfl;(first|with_reducible exact si64|with_reducible exact su64|with_reducible exact zII|with_reducible exact sint|with_reducible exact sbk);(first|with_reducible exact ui64|with_reducible exact uu64|with_reducible exact zIl|with_reducible exact uint|with_reducible exact ubk))|(refine zAX [0,1,2,3] [] rfl rfl zGG (ha) rfl (SArgs_all rfl) rfl (by decide) rfl rfl rfl rfl)|(refine zAd zEh ht (CoLA rfl))|(apply zBM;exact rfl;exact rfl;exact rfl;(with_reducible exact zBY);omega;(rw[zAm];omega))|(apply Y_index_row (id:=4);exact rfl;exact rfl;exact rfl;(with_reducible exact zGu);omega)|exact zLk rfl|(apply zCR;exact rfl;(with_reducible exact zBU);exact rfl;(show (w64s now)[Int.toNat _]?=some (w64 (zCu o));rw[qAj];exact zDe h);exact rfl)|(refine zAj rfl rfl rfl zAb rfl rfl (zZx ?_) rfl ?_)|(refine zGf rfl rfl rfl zBU rfl rfl ?_ rfl ?_)|apply ay (hd:=rfl)|exact zAF rfl|exact zAB rfl|exact zBS rfl|exact zAk rfl rfl|exact zA3 rfl zCq|exact zAH rfl|(apply zAC;exact rfl;(with_reducible first|exact zCw|exact zD6))|exact zAE rfl zBJ rfl rfl|(refine w0' ?_)|refine zAJ rfl ?_|apply zAR|apply zAQ
 all_goals first|omega|skip
 ·rw[zAm];omega
 ·have q:((a:Int)+1+(o.size:Int)).toNat-((a:Int)).toNat=o.size+1:=by omega
  have e1:(other++(now.drop a).take (o.size+1)).length=other.length+(((a:Int)+1+(o.size:Int)).toNat-((a:Int)).toNat):=by
   rw[qAD,qAK,qAb];omega
  have e2:w64s (other++(now.drop a).take (o.size+1))=(w64s other).take other.length++((w64s now).drop ((a:Int)).toNat).take (((a:Int)+1+(o.size:Int)).toNat-((a:Int)).toNat):=by
   rw[q,qAj,qAi (qA1 (zAm other))]
   simp[w64s,List.map_drop,List.map_take]
  have e3:=zZw be other.length hbe
  have e4:w64s (now.set a (8*other.length))=(w64s now).set ((a:Nat):Int).toNat (D.val (.int .u64 (IntKind.u64.wrap (IntKind.u64.wrap (other.length:Int)*2 ^ min (3:Int).toNat IntKind.u64.bits)))):=by
   rw[<-zHe,qAj]
   refine congrArg _ ?_
   refine(zJI ?_).symm
   rw[show (2:Int) ^ min (3:Int).toNat IntKind.u64.bits=8 by decide,zDm,zDm];omega
  exact zDI (zAS (Le_d rfl (by refine(zJI ?_).symm;rw[show (2:Int) ^ min (1:Int).toNat IntKind.u64.bits=2 by decide,zDm,zDm];omega) Le_nil)
   (zAN rfl (show Ob.bx _ _ [.buf 1 (now.set a (8*other.length)).length,.buf 2 (other++(now.drop a).take (o.size+1)).length,_,_]=_ by rw[qAa,e1];rfl) (zAo rfl rfl e4 (zAo rfl rfl e2 (zAN rfl rfl (zAN rfl (((congrArg (fun l=>Ob.kill 2 (Ob.bx (fx 4) (some 4) l)) e3).trans (zIy 2 _ _ _)).symm) zAs))))) rfl (zNA _ _ _ _ _ _ _ (_,_) (_,_) (_,_) _))
end Go.Proofs.YtcagoomibpcdlaaGreatDoor
namespace Go.Proofs.YtcagoomibpcdlaaGreatDoor
open _root_.Go.Proofs.Tryz
open Go.Sx Go.Vm
abbrev HC(all:List Thing)(ly:List Nat)(size:Nat)(ord:List Nat)(X:List Nat): List Ob:=HM (size:Int) (nowM all ly ord) X (begL all ly size) (begL all ord size)
attribute [local irreducible] zAO Program.underlying Ylds zBE alex zB0 zBk awp zAg zB9 zB8 zAU zBj zA6 zBn zBC zBq zBz zB7 zBm zBc zBe
theorem zOh{all:List Thing}{ly ord X:List Nat}{size:Nat}(hn:ly.Nodup)(hno:ord.Nodup)(hs:∀j∈ord,j∈ly)(hX:X.length=sumN all ord)(hH:∀i∈ly,HeadOk (zAW all i)/\1<=(zAW all i).kind)(hsz:sumN all ly<=size)(h20:size<=1048576)(r:Rf)(hr:In ly r):
  zBj prog 153 [.ptr 0 0,.d (w64 (wdN all ly r))] 4 size (HC all ly size ord X) (.d (w64 (wdN all (addN ord [r]) r))) (HC all ly size (addN ord [r]) (X++newB all ly ord r)):=by
 have hnl:=zUZ all ly ord
 have hso:sumN all ord<=sumN all ly:=zFR hno hs
 have hbl:(begL all ord size).length=size:=zJ7 all ord (by omega)
 cases r with
 |n v =>
  rw[zJB]
  obtain⟨o1,o2⟩:=zOA all ly v
  have h:=zUc (size:Int) (nowM all ly ord) X (begL all ly size) (begL all ord size) o1 o2
  rw[hbl]at h
  simp only[newB,qBC]
  exact h
 |b i =>
  have hi:=hr i rfl
  have hoff:=zML (all:=all) hi
  have hnp:=zF7 (zAW all i)
  have hnz:=zDV (zAW all i)
  have hb:=zJ8 (all:=all) (size:=size) hi
  rw[zJB]
  by_cases ho:i∈ord
  ·simp only[if_pos ho,newB,qBC]
   have hof2:=zML (all:=all) ho
   have h:=zUb (size:Int) (nowM all ly ord) X (begL all ly size) (begL all ord size) (a:=offL all ly i) (k:=offL all ord i) (by rw[<-qA2 (offL all ly i),zRy hi (by omega),zXw ho]) (by omega) (by omega) hb
   rw[hbl]at h
   exact h
  ·simp only[if_neg ho,newB]
   obtain⟨hh,hkd⟩:=hH i hi
   have hroom:=zRz (all:=all) hno hs hi ho
   have h:=zUd (size:Int) (nowM all ly ord) X (begL all ly size) (begL all ord size) (a:=offL all ly i) (o:=zAW all i) (by rw[<-qA2 (offL all ly i),zRy hi (by omega),zSK ho];rfl) hh hkd hb (by omega) (by omega) (by rw[hbl];omega) (by omega)
   rw[hbl,hX,Nat.mul_comm 8,zRx hn hi ho,zPC (all:=all) (ord:=ord) (i:=i) (by omega),<-hnz,show ((nowM all ly ord).drop (offL all ly i)).take (zAW all i).need=zC1 all ly i from(zU8 (zLZ all ly ord) hi).trans (zSK ho)]at h
   rw[show wdN all (ord++[i]) (.b i)=2*sumN all ord by rw[wdN,zI2 ho]]
   exact h
end Go.Proofs.YtcagoomibpcdlaaGreatDoor
