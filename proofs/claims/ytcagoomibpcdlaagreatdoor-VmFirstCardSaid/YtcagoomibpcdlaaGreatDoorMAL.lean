/- Parts of the proof. -/
import Derived.Test.YtcagoomibpcdlaaGreatDoorMAK
set_option maxHeartbeats 16000000
namespace Go.Proofs.YtcagoomibpcdlaaGreatDoor
open _root_.Go.Proofs.Tryz
open Go.Sx Go.Vm
abbrev HM(size:Int)(now other:List Nat)(beg be:List Bool): List Ob:=HO size now other beg++[Ob.bx none (some 4) ((bls be).map .d)]
theorem zY7{l:List Bool}{i:Int}(h:i.toNat<l.length): Nat.ble (i.toNat+1) ((bls l).map SV.d).length=true:=Nat.ble_eq_true_of_le (by rw[qAC,zGE];omega)
theorem zY6(l:List Bool)(i:Nat)(h:i<l.length): ((bls l).map SV.d).take i++[.d (bl true)]++((bls l).map SV.d).drop (i+1)=(bls (l.set i true)).map SV.d:=by
 rw[bls,bls,List.map_set,List.map_set,qBQ,if_pos (by simp;exact h)];simp
theorem zTI{f:SV->SV}(hf:∀d,f (.d d)=.d d)(L:List D): (L.map SV.d).map f=L.map SV.d:=by
 rw[qBm];exact qBU fun d _=>hf d
theorem zJA(m:Nat)(L:List D): (L.map SV.d).all (SV.bel m)=true:=by
 rw[List.all_map];exact qAV.2 fun d _=>rfl
theorem zIj(i:Nat)(k:Option Nat)(et:Option TypeId)(L:List D): Ob.kill i (.bx k et (L.map SV.d))=.bx k et (L.map SV.d):=congrArg (Ob.bx k et) (zTI (fun _=>rfl) L)
theorem zWK(ids:List Nat)(k:Option Nat)(et:Option TypeId)(L:List D): Ob.ren ids (.bx k et (L.map SV.d))=.bx k et (L.map SV.d):=congrArg (Ob.bx k et) (zTI (fun _=>rfl) L)
theorem zMb(k k' et:Option Nat)(a b e:Nat)(c:D)(o1 o2 o3:Nat×List D)(L:List D): [Ob.bx k none [.buf 1 a,.buf 2 b,.d c,.buf 3 e],.buf true o1.1 1 o1.2,.buf true o2.1 1 o2.2,.buf true o3.1 1 o3.2,.bx k' et (L.map SV.d)].all (Ob.below 5)=true:=by
 simp only[List.all_cons,List.all_nil,Ob.below,zJA];rfl
attribute [local irreducible] zAN Program.underlying Ylds zA9 alex zB3 zBf awp zAi zCC zCB zAU zAz zBj zBB zBr zB2 zB8 zBi zBd zBg
theorem zSy(x:Nat)(h:x<18446744073709551616): zAi prog 99 [w64 x] (.tup [i64 ((x%8:Nat):Int),i64 ((x / 65536:Nat):Int),i64 ((x / 8%8192:Nat):Int)]):=by
 have e1:=zVG _ h
 have e2:=zUy x
 have e3:=zWG x
 have e4:=zRp (x / 8) (by omega)
 refine zED func99 rfl ntmps99 results99 rfl ?_
 intro wb St0
 repeat' first|apply en_n|apply zAH|apply zAA|apply zAD|apply w0|(refine zBu ?_)|(refine zCJ ?_)|exact zDC|(refine RV_d rfl ?_ ?_)|(apply zD6;exact rfl;(first|with_reducible exact si64|with_reducible exact su64|with_reducible exact zH2|with_reducible exact sint|with_reducible exact sbk);(first|with_reducible exact ui64|with_reducible exact uu64|with_reducible exact zIT|with_reducible exact uint|with_reducible exact ubk))|(apply zLE;exact rfl;exact rfl;exact(by decide))|exact zMW rfl rfl|apply ay (hd:=rfl)|exact zAF rfl|exact zAB rfl|apply zAQ
 all_goals first|rfl|skip
 ·rw[e3,e4,zG5];refine congrArg (fun x=>D.val (.int .i64 x)) ?_;omega
 ·rw[e2,zG5];refine congrArg (fun x=>D.val (.int .i64 x)) ?_;omega
 ·rw[e1,zG5];refine congrArg (fun x=>D.val (.int .i64 x)) ?_;omega
theorem zTq(size:Int)(now other:List Nat)(beg be:List Bool){w:Nat}(h:w%2=1)(hw:w<18446744073709551616):
  zBl prog 153 [.ptr 0 0,.d (w64 w)] 4 be.length (HM size now other beg be) (.d (w64 w)) (HM size now other beg be):=by
 have h1:=zPP w hw
 have h2:IntKind.u64.wrap (BitVec.ofInt IntKind.u64.bits (w:Int) &&& BitVec.ofInt IntKind.u64.bits 1).toNat=1:=by rw[h1];omega
 have ha:=zRy size now other beg h hw
 refine zJM func153 rfl ntmps153 results153 rfl rfl rfl ?_
 intro wb St0 X fx
 repeat' first|apply en_n|apply zAH|apply zAA|apply zAD|apply w0|exact zAk rfl rfl|exact zMW rfl rfl|(refine zAW [0,1,2,3] [] rfl rfl zGB (ha) rfl (SArgs_all rfl) rfl (by decide) rfl rfl rfl rfl)|apply ay (hd:=rfl)|exact zAF rfl|exact zAB rfl|exact zBX rfl|exact zAg rfl rfl|exact zAG rfl|refine zAI rfl ?_|apply zAQ|apply en_r
 all_goals exact zDF (zAT (Le_all rfl) (zAO rfl rfl (zAO rfl rfl (zAO rfl rfl (zAO rfl rfl (zAO rfl rfl zAt))))) rfl (zMb _ _ _ _ _ _ _ (_,_) (_,_) (_,_) _))
theorem zTp(size:Int)(now other:List Nat)(beg be:List Bool){a k:Nat}(h:now[a]?=some (8*k))(hk:k<=1048576)(hn:now.length<=1048576)(hb:beg[a]?=some true):
  zBl prog 153 [.ptr 0 0,.d (w64 (2*a))] 4 be.length (HM size now other beg be) (.d (w64 (2*k))) (HM size now other beg be):=by
 have hl:=(qAA.1 h).1
 have ha:=zUX size now other beg hl hn hb
 have ht:=zSy (8*k) (by omega)
 have h0:((8*k%8:Nat):Int)=0:=by omega
 refine zJM func153 rfl ntmps153 results153 rfl rfl rfl ?_
 intro wb St0 X fx
 repeat' first|apply en_n|apply zAH|apply zAA|apply zAD|apply w0|exact zAk rfl rfl|exact zAK rfl|(apply zMU;exact rfl;exact rfl;exact(by decide))|(apply zLE;exact rfl;exact rfl;exact(by decide))|(refine zAW [0,1,2,3] [] rfl rfl zGB (ha) rfl (SArgs_all rfl) rfl (by decide) rfl rfl rfl rfl)|(refine zAb zEY ht (zAY rfl zAM))|(apply zBZ;exact rfl;exact rfl;exact rfl;(with_reducible exact zBQ);omega;(rw[zAl];omega))|(apply zCl;exact rfl;(with_reducible exact zBO);exact rfl;(show (w64s now)[Int.toNat _]?=some (w64 (8*k));rw[qAj];exact zDe h);exact rfl)|apply ay (hd:=rfl)|exact zAF rfl|exact zAB rfl|exact zBX rfl|exact zAg rfl rfl|exact zAG rfl|exact zAC rfl zCv|exact zAE rfl zBC rfl rfl|refine zAI rfl ?_|refine zAJ rfl ?_|apply zAS|apply zAQ|apply en_r
 all_goals exact zDF (zAT (Le_d rfl (by refine(zI2 ?_).symm;rw[zWG,show (2:Int) ^ min (1:Int).toNat IntKind.u64.bits=2 by decide,zDl];omega) Le_nil) (zAO rfl rfl (zAO rfl rfl (zAO rfl rfl (zAO rfl rfl (zAO rfl rfl zAt))))) rfl (zMb _ _ _ _ _ _ _ (_,_) (_,_) (_,_) _))
theorem zTr(size:Int)(now other:List Nat)(beg be:List Bool){a:Nat}{o:Thing}(h:now[a]?=some (zCt o))(ho:HeadOk o)(hk:1<=o.kind)(hb:beg[a]?=some true)(hs:a+1+o.size<=now.length)(hn:now.length<=1048576)(hbe:other.length<be.length)(hot:other.length<=1048576):
  zBl prog 153 [.ptr 0 0,.d (w64 (2*a))] 4 be.length (HM size now other beg be) (.d (w64 (2*other.length))) (HM size (now.set a (8*other.length)) (other++(now.drop a).take (o.size+1)) beg (be.set other.length true)):=by
 have hl:=(qAA.1 h).1
 have ha:=zUX size now other beg hl hn hb
 have ht:=zMn o ho
 have h0:¬o.kind=0:=by omega
 have hz:o.size<=1048576:=by omega
 refine zJM func153 rfl ntmps153 results153 rfl rfl rfl ?_
 intro wb St0 X fx
 repeat' first|(refine zPk (rid:=12) [.ptr 0 0,.ptr 0 0,.ptr 0 0,.ptr 0 1,.buf 2 other.length,.ptr 0 0,.ptr 0 0,.ptr 0 0,.buf 1 now.length,.d (i64 (a:Int)),.d (i64 (a:Int)),.d (i64 ((a:Int)+1)),.d (i64 (o.size:Int)),.d (i64 ((a:Int)+1+(o.size:Int))),.bsl 1 ((a:Int)).toNat (((a:Int)+1+(o.size:Int)).toNat-((a:Int)).toNat),.top] 15 2 (by kernel_rfl) (by kernel_rfl) rfl rfl rfl (.inr (by kernel_rfl)) ⟨.inr ⟨⟨rfl,zAG rfl⟩,rfl,rfl,.inr ⟨rfl,rfl,zAG rfl⟩⟩,⟨.inr ⟨⟨rfl,zAG rfl⟩,rfl,rfl,.inl (by kernel_rfl)⟩,⟨.inr ⟨⟨rfl,zAK rfl⟩,rfl,rfl,.inl (by kernel_rfl)⟩,⟨.inr ⟨⟨rfl,zAC rfl zD2⟩,rfl,rfl,.inl (by kernel_rfl)⟩,⟨.inr ⟨⟨rfl,zAE rfl zBC rfl rfl⟩,rfl,rfl,.inl (by kernel_rfl)⟩,⟨.inr ⟨⟨rfl,zAG rfl⟩,rfl,rfl,.inl (by kernel_rfl)⟩,⟨.inr ⟨⟨rfl,zAK rfl⟩,rfl,rfl,.inl (by kernel_rfl)⟩,⟨.inr ⟨⟨rfl,zAC rfl zCv⟩,rfl,rfl,.inl (by kernel_rfl)⟩,⟨.inr ⟨⟨rfl,zAE rfl zBC rfl rfl⟩,rfl,rfl,.inl (by kernel_rfl)⟩,⟨.inr ⟨⟨rfl,zAF rfl⟩,rfl,rfl,.inl (by kernel_rfl)⟩,⟨.inr ⟨⟨rfl,zAF rfl⟩,rfl,rfl,.inl (by kernel_rfl)⟩,⟨.inr ⟨⟨rfl,zBE rfl rfl (by omega)⟩,rfl,rfl,.inl (by kernel_rfl)⟩,⟨.inr ⟨⟨rfl,zAF rfl⟩,rfl,rfl,.inl (by kernel_rfl)⟩,⟨.inr ⟨⟨rfl,zBE rfl rfl (by omega)⟩,rfl,rfl,.inl (by kernel_rfl)⟩,⟨.inr ⟨⟨rfl,zXZ rfl rfl zBQ rfl rfl (by omega) (by rw[zAl];omega)⟩,rfl,rfl,.inl (by kernel_rfl)⟩,⟨.inl rfl,trivial⟩⟩⟩⟩⟩⟩⟩⟩⟩⟩⟩⟩⟩⟩⟩⟩ rfl rfl rfl rfl (by rw[zAl];omega) (by rw[zAl];omega) (fun c=>by cases c) zCS zBQ zE6 zD0 (zHA now) (by omega) rfl rfl ?_)|apply en_n|apply zAH|apply zAA|apply zAD|apply w0|(refine zBv (by kernel_rfl) ?_;apply zAh;exact rfl;exact rfl;exact rfl;(with_reducible exact zBC);exact rfl;exact rfl;exact rfl;exact rfl)|exact zAm rfl rfl|exact zAK rfl|(apply zMU;exact rfl;exact rfl;exact(by decide))|(apply zD6;exact rfl;(first|with_reducible exact si64|with_reducible exact su64|with_reducible exact zH2|with_reducible exact sint|with_reducible exact sbk);(first|with_reducible exact ui64|with_reducible exact uu64|with_reducible exact zIT|with_reducible exact uint|with_reducible exact ubk))|(refine zAW [0,1,2,3] [] rfl rfl zGB (ha) rfl (SArgs_all rfl) rfl (by decide) rfl rfl rfl rfl)|(refine zAb zEY ht (zAY rfl zAM))|(apply zBZ;exact rfl;exact rfl;exact rfl;(with_reducible exact zBQ);omega;(rw[zAl];omega))|(apply Y_index_row (id:=4);exact rfl;exact rfl;exact rfl;(with_reducible exact zGm);omega)|exact zLF rfl|(apply zCl;exact rfl;(with_reducible exact zBO);exact rfl;(show (w64s now)[Int.toNat _]?=some (w64 (zCt o));rw[qAj];exact zDe h);exact rfl)|(refine zAh rfl rfl rfl zAc rfl rfl (zY7 ?_) rfl ?_)|(refine zGb rfl rfl rfl zBO rfl rfl ?_ rfl ?_)|apply ay (hd:=rfl)|exact zAF rfl|exact zAB rfl|exact zBX rfl|exact zAg rfl rfl|exact zA5 rfl zCq|exact zAG rfl|(apply zAC;exact rfl;(with_reducible first|exact zCv|exact zD2))|exact zAE rfl zBC rfl rfl|(refine w0' ?_)|refine zAJ rfl ?_|apply zAS|apply zAQ
 all_goals first|omega|skip
 ·rw[zAl];omega
 ·have q:((a:Int)+1+(o.size:Int)).toNat-((a:Int)).toNat=o.size+1:=by omega
  have e1:(other++(now.drop a).take (o.size+1)).length=other.length+(((a:Int)+1+(o.size:Int)).toNat-((a:Int)).toNat):=by
   rw[qAE,qAJ,qAe];omega
  have e2:w64s (other++(now.drop a).take (o.size+1))=(w64s other).take other.length++((w64s now).drop ((a:Int)).toNat).take (((a:Int)+1+(o.size:Int)).toNat-((a:Int)).toNat):=by
   rw[q,qAj,qAi (qA0 (zAl other))]
   simp[w64s,List.map_drop,List.map_take]
  have e3:=zY6 be other.length hbe
  have e4:w64s (now.set a (8*other.length))=(w64s now).set ((a:Nat):Int).toNat (D.val (.int .u64 (IntKind.u64.wrap (IntKind.u64.wrap (other.length:Int)*2 ^ min (3:Int).toNat IntKind.u64.bits)))):=by
   rw[<-zHU,qAj]
   refine congrArg _ ?_
   refine(zI2 ?_).symm
   rw[show (2:Int) ^ min (3:Int).toNat IntKind.u64.bits=8 by decide,zDl,zDl];omega
  exact zDF (zAT (Le_d rfl (by refine(zI2 ?_).symm;rw[show (2:Int) ^ min (1:Int).toNat IntKind.u64.bits=2 by decide,zDl,zDl];omega) Le_nil)
   (zAO rfl (show Ob.bx _ _ [.buf 1 (now.set a (8*other.length)).length,.buf 2 (other++(now.drop a).take (o.size+1)).length,_,_]=_ by rw[qAa,e1];rfl) (zAn rfl rfl e4 (zAn rfl rfl e2 (zAO rfl rfl (zAO rfl (((congrArg (fun l=>Ob.kill 2 (Ob.bx (fx 4) (some 4) l)) e3).trans (zIj 2 _ _ _)).symm) zAt))))) rfl (zMb _ _ _ _ _ _ _ (_,_) (_,_) (_,_) _))
end Go.Proofs.YtcagoomibpcdlaaGreatDoor
namespace Go.Proofs.YtcagoomibpcdlaaGreatDoor
open _root_.Go.Proofs.Tryz
open Go.Sx Go.Vm
abbrev HC(all:List Thing)(ly:List Nat)(size:Nat)(ord:List Nat)(X:List Nat): List Ob:=HM (size:Int) (nowM all ly ord) X (begL all ly size) (begL all ord size)
attribute [local irreducible] zAN Program.underlying Ylds zA9 alex zB3 zBf awp zAi zCC zCB zAU zBl zAz zBj zBB zBr zB2 zB8 zBi zBd zBg
theorem zN4{all:List Thing}{ly ord X:List Nat}{size:Nat}(hn:ly.Nodup)(hno:ord.Nodup)(hs:∀j∈ord,j∈ly)(hX:X.length=sumN all ord)(hH:∀i∈ly,HeadOk (zAV all i)/\1<=(zAV all i).kind)(hsz:sumN all ly<=size)(h20:size<=1048576)(r:Rf)(hr:In ly r):
  zBl prog 153 [.ptr 0 0,.d (w64 (wdN all ly r))] 4 size (HC all ly size ord X) (.d (w64 (wdN all (addN ord [r]) r))) (HC all ly size (addN ord [r]) (X++newB all ly ord r)):=by
 have hnl:=zTo all ly ord
 have hso:sumN all ord<=sumN all ly:=zFO hno hs
 have hbl:(begL all ord size).length=size:=zJf all ord (by omega)
 cases r with
 |n v =>
  rw[zIv]
  obtain⟨o1,o2⟩:=zNc all ly v
  have h:=zTq (size:Int) (nowM all ly ord) X (begL all ly size) (begL all ord size) o1 o2
  rw[hbl]at h
  simp only[newB,qBC]
  exact h
 |b i =>
  have hi:=hr i rfl
  have hoff:=zLm (all:=all) hi
  have hnp:=zF3 (zAV all i)
  have hnz:=zDS (zAV all i)
  have hb:=zJg (all:=all) (size:=size) hi
  rw[zIv]
  by_cases ho:i∈ord
  ·simp only[if_pos ho,newB,qBC]
   have hof2:=zLm (all:=all) ho
   have h:=zTp (size:Int) (nowM all ly ord) X (begL all ly size) (begL all ord size) (a:=offL all ly i) (k:=offL all ord i) (by rw[<-qA3 (offL all ly i),zRC hi (by omega),zXC ho]) (by omega) (by omega) hb
   rw[hbl]at h
   exact h
  ·simp only[if_neg ho,newB]
   obtain⟨hh,hkd⟩:=hH i hi
   have hroom:=zRD (all:=all) hno hs hi ho
   have h:=zTr (size:Int) (nowM all ly ord) X (begL all ly size) (begL all ord size) (a:=offL all ly i) (o:=zAV all i) (by rw[<-qA3 (offL all ly i),zRC hi (by omega),zRY ho];rfl) hh hkd hb (by omega) (by omega) (by rw[hbl];omega) (by omega)
   rw[hbl,hX,Nat.mul_comm 8,zRB hn hi ho,zOa (all:=all) (ord:=ord) (i:=i) (by omega),<-hnz,show ((nowM all ly ord).drop (offL all ly i)).take (zAV all i).need=zC2 all ly i from(zUQ (zK5 all ly ord) hi).trans (zRY ho)]at h
   rw[show wdN all (ord++[i]) (.b i)=2*sumN all ord by rw[wdN,zIn ho]]
   exact h
end Go.Proofs.YtcagoomibpcdlaaGreatDoor
