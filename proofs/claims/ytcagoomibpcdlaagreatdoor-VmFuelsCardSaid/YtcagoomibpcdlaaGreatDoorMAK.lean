/- Texts of this claim, merged: VmL, VmM. -/
import Derived.Test.YtcagoomibpcdlaaGreatDoorMAB
import Derived.Test.YtcagoomibpcdlaaGreatDoorMAG
import Derived.Test.YtcagoomibpcdlaaGreatDoorMAJ
namespace Go.Proofs.YtcagoomibpcdlaaGreatDoor
open Go.Sx Go.Vm
abbrev HM(size:Int)(now other:List Nat)(beg be:List Bool): List Ob:=HO size now other beg++[Ob.bx none (some 4) ((bls be).map .d)]
theorem zYI{l:List Bool}{i:Int}(h:i.toNat<l.length): Nat.ble (i.toNat+1) ((bls l).map SV.d).length=true:=Nat.ble_eq_true_of_le (by rw[List.length_map,zFv];omega)
theorem zYH(l:List Bool)(i:Nat)(h:i<l.length): ((bls l).map SV.d).take i++[.d (bl true)]++((bls l).map SV.d).drop (i+1)=(bls (l.set i true)).map SV.d:=by
 rw[bls,bls,List.map_set,List.map_set,List.set_eq_take_append_cons_drop,if_pos (by simp;exact h)];simp
theorem zSf{f:SV→SV}(hf:∀d,f (.d d)=.d d)(L:List D): (L.map SV.d).map f=L.map SV.d:=by
 rw[List.map_map];exact List.map_congr_left fun d _=>hf d
theorem zIt(m:Nat)(L:List D): (L.map SV.d).all (SV.bel m)=true:=by
 rw[List.all_map];exact List.all_eq_true.2 fun d _=>rfl
theorem zIP(i:Nat)(k:Option Nat)(et:Option TypeId)(L:List D): Ob.kill i (.bx k et (L.map SV.d))=.bx k et (L.map SV.d):=congrArg (Ob.bx k et) (zSf (fun _=>rfl) L)
theorem zVW(ids:List Nat)(k:Option Nat)(et:Option TypeId)(L:List D): Ob.ren ids (.bx k et (L.map SV.d))=.bx k et (L.map SV.d):=congrArg (Ob.bx k et) (zSf (fun _=>rfl) L)
theorem zL9(k k' et:Option Nat)(a b e:Nat)(c:D)(o1 o2 o3:Nat×List D)(L:List D): [Ob.bx k none [.buf 1 a,.buf 2 b,.d c,.buf 3 e],.buf true o1.1 1 o1.2,.buf true o2.1 1 o2.2,.buf true o3.1 1 o3.2,.bx k' et (L.map SV.d)].all (Ob.below 5)=true:=by
 simp only[List.all_cons,List.all_nil,Ob.below,zIt];rfl
attribute [local irreducible] zAQ Program.underlying Ylds zBD alex zCA zBi awp zAp zCI zCH zAW zA5 zBp zBF zBv zB9 zCE zBn zBm zBs
theorem zSL(x:Nat)(h:x<18446744073709551616): zAp Tryz.prog 99 [w64 x] (.tup [i64 ((x%8:Nat):Int),i64 ((x / 65536:Nat):Int),i64 ((x / 8%8192:Nat):Int)]):=by
 have e1:=zUX _ h
 have e2:=zUG x
 have e3:=zVS x
 have e4:=zRC (x / 8) (by omega)
 refine zDy Tryz.func99 rfl Tryz.ntmps99 Tryz.results99 rfl ?_
 intro wb St0
 repeat' first|apply en_n|apply zAK|apply zAA|apply zAF|apply w0|(refine zBq ?_)|(refine zCJ ?_)|exact zC6|(refine RV_d rfl ?_ ?_)|(apply zD5;exact rfl;(first|with_reducible exact si64|with_reducible exact su64|with_reducible exact zHl|with_reducible exact sint|with_reducible exact sbk);(first|with_reducible exact ui64|with_reducible exact uu64|with_reducible exact zIC|with_reducible exact uint|with_reducible exact ubk))|(apply zKs;exact rfl;exact rfl;exact(by decide))|exact zL4 rfl rfl|apply ay (hd:=rfl)|exact zAJ rfl|exact zAD rfl|apply zAT
 all_goals first|rfl|skip
 ·rw[e3,e4,zGn];refine congrArg (fun x=>D.val (.int .i64 x)) ?_;omega
 ·rw[e2,zGn];refine congrArg (fun x=>D.val (.int .i64 x)) ?_;omega
 ·rw[e1,zGn];refine congrArg (fun x=>D.val (.int .i64 x)) ?_;omega
theorem zTA(size:Int)(now other:List Nat)(beg be:List Bool){w:Nat}(h:w%2=1)(hw:w<18446744073709551616):
  zBw Tryz.prog 153 [.ptr 0 0,.d (w64 w)] 4 be.length (HM size now other beg be) (.d (w64 w)) (HM size now other beg be):=by
 have h1:=zOn w hw
 have h2:IntKind.u64.wrap (BitVec.ofInt IntKind.u64.bits (w:Int) &&& BitVec.ofInt IntKind.u64.bits 1).toNat=1:=by rw[h1];omega
 have ha:=zRL size now other beg h hw
 refine zI4 Tryz.func153 rfl Tryz.ntmps153 Tryz.results153 rfl rfl rfl ?_
 intro wb St0 X fx
 repeat' first|apply en_n|apply zAK|apply zAA|apply zAF|apply w0|(apply zAn;exact rfl;exact rfl;first|assumption|omega)|exact zL4 rfl rfl|(refine zAZ [0,1,2,3] [] rfl rfl zFs (ha) rfl ?_ rfl (by decide) rfl rfl rfl rfl;(repeat (refine zAB rfl ?_));exact zAE)|apply ay (hd:=rfl)|exact zAJ rfl|exact zAD rfl|exact zBd rfl|exact zAm rfl rfl|exact zAH rfl|(apply zAL;exact rfl)|apply zAT|apply en_r
 all_goals exact zC8 (zAV (zAI rfl zAd) (zAP rfl rfl (zAP rfl rfl (zAP rfl rfl (zAP rfl rfl (zAP rfl rfl zA7))))) rfl (zL9 _ _ _ _ _ _ _ (_,_) (_,_) (_,_) _))
theorem zS9(size:Int)(now other:List Nat)(beg be:List Bool){a k:Nat}(h:now[a]?=some (8*k))(hk:k≤1048576)(hn:now.length≤1048576)(hb:beg[a]?=some true):
  zBw Tryz.prog 153 [.ptr 0 0,.d (w64 (2*a))] 4 be.length (HM size now other beg be) (.d (w64 (2*k))) (HM size now other beg be):=by
 have hl:=(List.getElem?_eq_some_iff.1 h).1
 have ha:=zTq size now other beg hl hn hb
 have ht:=zSL (8*k) (by omega)
 have h0:((8*k%8:Nat):Int)=0:=by omega
 refine zI4 Tryz.func153 rfl Tryz.ntmps153 Tryz.results153 rfl rfl rfl ?_
 intro wb St0 X fx
 repeat' first|apply en_n|apply zAK|apply zAA|apply zAF|apply w0|(apply zAn;exact rfl;exact rfl;first|assumption|omega)|exact zAN rfl|(apply zL1;exact rfl;exact rfl;exact(by decide))|(apply zKs;exact rfl;exact rfl;exact(by decide))|(refine zAZ [0,1,2,3] [] rfl rfl zFs (ha) rfl ?_ rfl (by decide) rfl rfl rfl rfl;(repeat (refine zAB rfl ?_));exact zAE)|(refine zAh zEQ ht (zAa rfl zAR))|(apply zBY;exact rfl;exact rfl;exact rfl;(with_reducible exact zBS);omega;(rw[zAk];omega))|(apply zCg;exact rfl;(with_reducible exact zBQ);exact rfl;(show (w64s now)[Int.toNat _]?=some (w64 (8*k));rw[Int.toNat_natCast];exact zDS h);exact rfl)|apply ay (hd:=rfl)|exact zAJ rfl|exact zAD rfl|exact zBd rfl|exact zAm rfl rfl|exact zAH rfl|(apply zAC;exact rfl;(with_reducible exact zCo))|(apply zAG;exact rfl;(with_reducible exact zBC);exact rfl;exact rfl)|(apply zAL;exact rfl)|(apply zAM;exact rfl)|apply zAU|apply zAT|apply en_r
 all_goals exact zC8 (zAV (Le_d rfl (by refine(zIj ?_).symm;rw[zVS,show (2:Int) ^ min (1:Int).toNat IntKind.u64.bits=2 by decide,zDZ];omega) zAd) (zAP rfl rfl (zAP rfl rfl (zAP rfl rfl (zAP rfl rfl (zAP rfl rfl zA7))))) rfl (zL9 _ _ _ _ _ _ _ (_,_) (_,_) (_,_) _))
theorem zTB(size:Int)(now other:List Nat)(beg be:List Bool){a:Nat}{o:Thing}(h:now[a]?=some (zCm o))(ho:HeadOk o)(hk:1≤o.kind)(hb:beg[a]?=some true)(hs:a+1+o.size≤now.length)(hn:now.length≤1048576)(hbe:other.length<be.length)(hot:other.length≤1048576):
  zBw Tryz.prog 153 [.ptr 0 0,.d (w64 (2*a))] 4 be.length (HM size now other beg be) (.d (w64 (2*other.length))) (HM size (now.set a (8*other.length)) (other++(now.drop a).take (o.size+1)) beg (be.set other.length true)):=by
 have hl:=(List.getElem?_eq_some_iff.1 h).1
 have ha:=zTq size now other beg hl hn hb
 have ht:=zML o ho
 have h0:¬o.kind=0:=by omega
 have hz:o.size≤1048576:=by omega
 refine zI4 Tryz.func153 rfl Tryz.ntmps153 Tryz.results153 rfl rfl rfl ?_
 intro wb St0 X fx
 repeat' first|(refine zO7 (rid:=12) [.ptr 0 0,.ptr 0 0,.ptr 0 0,.ptr 0 1,.buf 2 other.length,.ptr 0 0,.ptr 0 0,.ptr 0 0,.buf 1 now.length,.d (i64 (a:Int)),.d (i64 (a:Int)),.d (i64 ((a:Int)+1)),.d (i64 (o.size:Int)),.d (i64 ((a:Int)+1+(o.size:Int))),.bsl 1 ((a:Int)).toNat (((a:Int)+1+(o.size:Int)).toNat-((a:Int)).toNat),.top] 15 2 (by kernel_rfl) (by kernel_rfl) rfl rfl rfl (.inr (by kernel_rfl)) ⟨.inr ⟨⟨rfl,zAH rfl⟩,rfl,rfl,.inr ⟨rfl,rfl,zAH rfl⟩⟩,⟨.inr ⟨⟨rfl,zAH rfl⟩,rfl,rfl,.inl (by kernel_rfl)⟩,⟨.inr ⟨⟨rfl,zAN rfl⟩,rfl,rfl,.inl (by kernel_rfl)⟩,⟨.inr ⟨⟨rfl,zAC rfl zDo⟩,rfl,rfl,.inl (by kernel_rfl)⟩,⟨.inr ⟨⟨rfl,zAG rfl zBC rfl rfl⟩,rfl,rfl,.inl (by kernel_rfl)⟩,⟨.inr ⟨⟨rfl,zAH rfl⟩,rfl,rfl,.inl (by kernel_rfl)⟩,⟨.inr ⟨⟨rfl,zAN rfl⟩,rfl,rfl,.inl (by kernel_rfl)⟩,⟨.inr ⟨⟨rfl,zAC rfl zCo⟩,rfl,rfl,.inl (by kernel_rfl)⟩,⟨.inr ⟨⟨rfl,zAG rfl zBC rfl rfl⟩,rfl,rfl,.inl (by kernel_rfl)⟩,⟨.inr ⟨⟨rfl,zAJ rfl⟩,rfl,rfl,.inl (by kernel_rfl)⟩,⟨.inr ⟨⟨rfl,zAJ rfl⟩,rfl,rfl,.inl (by kernel_rfl)⟩,⟨.inr ⟨⟨rfl,zBL rfl rfl (by omega)⟩,rfl,rfl,.inl (by kernel_rfl)⟩,⟨.inr ⟨⟨rfl,zAJ rfl⟩,rfl,rfl,.inl (by kernel_rfl)⟩,⟨.inr ⟨⟨rfl,zBL rfl rfl (by omega)⟩,rfl,rfl,.inl (by kernel_rfl)⟩,⟨.inr ⟨⟨rfl,zWh rfl rfl zBS rfl rfl (by omega) (by rw[zAk];omega)⟩,rfl,rfl,.inl (by kernel_rfl)⟩,⟨.inl rfl,trivial⟩⟩⟩⟩⟩⟩⟩⟩⟩⟩⟩⟩⟩⟩⟩⟩ rfl rfl rfl rfl (by rw[zAk];omega) (by rw[zAk];omega) (fun c=>by cases c) zCT zBS zEr zDm (zGv now) (by omega) rfl rfl ?_)|apply en_n|apply zAK|apply zAA|apply zAF|apply w0|(refine zBr (by kernel_rfl) ?_;apply zAl;exact rfl;exact rfl;exact rfl;(with_reducible exact zBC);exact rfl;exact rfl;exact rfl;exact rfl)|(apply zAs;exact rfl;exact rfl;first|assumption|omega)|exact zAN rfl|(apply zL1;exact rfl;exact rfl;exact(by decide))|(apply zD5;exact rfl;(first|with_reducible exact si64|with_reducible exact su64|with_reducible exact zHl|with_reducible exact sint|with_reducible exact sbk);(first|with_reducible exact ui64|with_reducible exact uu64|with_reducible exact zIC|with_reducible exact uint|with_reducible exact ubk))|(refine zAZ [0,1,2,3] [] rfl rfl zFs (ha) rfl ?_ rfl (by decide) rfl rfl rfl rfl;(repeat (refine zAB rfl ?_));exact zAE)|(refine zAh zEQ ht (zAa rfl zAR))|(apply zBY;exact rfl;exact rfl;exact rfl;(with_reducible exact zBS);omega;(rw[zAk];omega))|(apply Y_index_row (id:=4);exact rfl;exact rfl;exact rfl;(with_reducible exact zGV);omega)|exact zKt rfl|(apply zCg;exact rfl;(with_reducible exact zBQ);exact rfl;(show (w64s now)[Int.toNat _]?=some (w64 (zCm o));rw[Int.toNat_natCast];exact zDS h);exact rfl)|(refine zAl rfl rfl rfl zAg rfl rfl (zYI ?_) rfl ?_)|(refine zGH rfl rfl rfl zBQ rfl rfl ?_ rfl ?_)|apply ay (hd:=rfl)|exact zAJ rfl|exact zAD rfl|exact zBd rfl|exact zAm rfl rfl|(apply zA4;exact rfl;(with_reducible exact zCj))|exact zAH rfl|(apply zAC;exact rfl;(with_reducible first|exact zCo|exact zDo))|(apply zAG;exact rfl;(with_reducible exact zBC);exact rfl;exact rfl)|(refine w0' ?_)|(apply zAM;exact rfl)|apply zAU|apply zAT
 all_goals first|omega|skip
 ·rw[zAk];omega
 ·have q:((a:Int)+1+(o.size:Int)).toNat-((a:Int)).toNat=o.size+1:=by omega
  have e1:(other++(now.drop a).take (o.size+1)).length=other.length+(((a:Int)+1+(o.size:Int)).toNat-((a:Int)).toNat):=by
   rw[List.length_append,List.length_take,List.length_drop];omega
  have e2:w64s (other++(now.drop a).take (o.size+1))=(w64s other).take other.length++((w64s now).drop ((a:Int)).toNat).take (((a:Int)+1+(o.size:Int)).toNat-((a:Int)).toNat):=by
   rw[q,Int.toNat_natCast,List.take_of_length_le (Nat.le_of_eq (zAk other))]
   simp[w64s,List.map_drop,List.map_take]
  have e3:=zYH be other.length hbe
  have e4:w64s (now.set a (8*other.length))=(w64s now).set ((a:Nat):Int).toNat (D.val (.int .u64 (IntKind.u64.wrap (IntKind.u64.wrap (other.length:Int)*2 ^ min (3:Int).toNat IntKind.u64.bits)))):=by
   rw[←zHE,Int.toNat_natCast]
   refine congrArg _ ?_
   refine(zIj ?_).symm
   rw[show (2:Int) ^ min (3:Int).toNat IntKind.u64.bits=8 by decide,zDZ,zDZ];omega
  exact zC8 (zAV (Le_d rfl (by refine(zIj ?_).symm;rw[show (2:Int) ^ min (1:Int).toNat IntKind.u64.bits=2 by decide,zDZ,zDZ];omega) zAd)
   (zAP rfl (show Ob.bx _ _ [.buf 1 (now.set a (8*other.length)).length,.buf 2 (other++(now.drop a).take (o.size+1)).length,_,_]=_ by rw[List.length_set,e1];rfl) (zAo rfl rfl e4 (zAo rfl rfl e2 (zAP rfl rfl (zAP rfl (((congrArg (fun l=>Ob.kill 2 (Ob.bx (fx 4) (some 4) l)) e3).trans (zIP 2 _ _ _)).symm) zA7))))) rfl (zL9 _ _ _ _ _ _ _ (_,_) (_,_) (_,_) _))
end Go.Proofs.YtcagoomibpcdlaaGreatDoor
namespace Go.Proofs.YtcagoomibpcdlaaGreatDoor
open Go.Sx Go.Vm
abbrev HC(all:List Thing)(ly:List Nat)(size:Nat)(ord:List Nat)(X:List Nat): List Ob:=HM (size:Int) (nowM all ly ord) X (begL all ly size) (begL all ord size)
attribute [local irreducible] zAQ Program.underlying Ylds zBD alex zCA zBi awp zAp zCI zCH zAW zBw zA5 zBp zBF zBv zB9 zCE zBn zBm zBs
theorem zNZ{all:List Thing}{ly ord X:List Nat}{size:Nat}(hn:ly.Nodup)(hno:ord.Nodup)(hs:∀j∈ord,j∈ly)(hX:X.length=sumN all ord)(hH:∀i∈ly,HeadOk (zAX all i)∧1≤(zAX all i).kind)(hsz:sumN all ly≤size)(h20:size≤1048576)(r:Rf)(hr:In ly r):
  zBw Tryz.prog 153 [.ptr 0 0,.d (w64 (wdN all ly r))] 4 size (HC all ly size ord X) (.d (w64 (wdN all (addN ord [r]) r))) (HC all ly size (addN ord [r]) (X++newB all ly ord r)):=by
 have hnl:=zS8 all ly ord
 have hso:sumN all ord≤sumN all ly:=zE7 hno hs
 have hbl:(begL all ord size).length=size:=zJO all ord (by omega)
 cases r with
 |n v =>
  rw[zIb]
  obtain⟨o1,o2⟩:=zM7 all ly v
  have h:=zTA (size:Int) (nowM all ly ord) X (begL all ly size) (begL all ord size) o1 o2
  rw[hbl]at h
  simp only[newB,List.append_nil]
  exact h
 |b i =>
  have hi:=hr i rfl
  have hoff:=zLK (all:=all) hi
  have hnp:=zFl (zAX all i)
  have hnz:=zDI (zAX all i)
  have hb:=zJP (all:=all) (size:=size) hi
  rw[zIb]
  by_cases ho:i∈ord
  ·simp only[if_pos ho,newB,List.append_nil]
   have hof2:=zLK (all:=all) ho
   have h:=zS9 (size:Int) (nowM all ly ord) X (begL all ly size) (begL all ord size) (a:=offL all ly i) (k:=offL all ord i) (by rw[←Nat.add_zero (offL all ly i),zQa hi (by omega),zWK ho]) (by omega) (by omega) hb
   rw[hbl]at h
   exact h
  ·simp only[if_neg ho,newB]
   obtain⟨hh,hkd⟩:=hH i hi
   have hroom:=zQb (all:=all) hno hs hi ho
   have h:=zTB (size:Int) (nowM all ly ord) X (begL all ly size) (begL all ord size) (a:=offL all ly i) (o:=zAX all i) (by rw[←Nat.add_zero (offL all ly i),zQa hi (by omega),zQw ho];rfl) hh hkd hb (by omega) (by omega) (by rw[hbl];omega) (by omega)
   rw[hbl,hX,Nat.mul_comm 8,zQZ hn hi ho,zN2 (all:=all) (ord:=ord) (i:=i) (by omega),←hnz,show ((nowM all ly ord).drop (offL all ly i)).take (zAX all i).need=zCv all ly i from(zTi (zKj all ly ord) hi).trans (zQw ho)]at h
   rw[show wdN all (ord++[i]) (.b i)=2*sumN all ord by rw[wdN,zIT ho]]
   exact h
end Go.Proofs.YtcagoomibpcdlaaGreatDoor
