import Derived.Test.YtcagoomibpcdlaaGreatDoorMAG
set_option maxHeartbeats 16000000
namespace Go.Proofs.YtcagoomibpcdlaaGreatDoor
open Go.Sx Go.Vm
section
open _root_.Go.Proofs.Tryz
theorem zEI{l:List Nat}{i:Nat}{x:Nat}(h:l[i]?=some x): (w64s l)[i]?=some (w64 x):=by rw[w64s,qAH,h];rfl
theorem zJA(l:List Nat)(i x:Nat): (w64s l).set i (w64 x)=w64s (l.set i x):=by rw[w64s,w64s,qBr]
theorem zKL(l m:List Nat): w64s l++w64s m=w64s (l++m):=by rw[w64s,w64s,w64s,qAU]
theorem zIp(l:List Nat): ∀d∈w64s l,d.flat.length=1:=fun d hd=>by obtain⟨x,_,rfl⟩:=qA5.1 hd;rfl
theorem zVi(a:Nat)(h:a<=1048576): IntKind.i64.wrap ((((2*a:Nat):Int)).fdiv (2 ^ min (1:Int).toNat IntKind.u64.bits))=(a:Int):=by rw[zcl,zId];omega
attribute [local irreducible] zAL Program.underlying Ylds zA2 alex zBZ zBP awp zAb zBh zBg zAW zAp zBR zAr zBV zBY zBe zBM zA8 zBE
theorem zb4(size:Int)(now other:List Nat)(beg:List Bool){a:Nat}{o:Thing}(h:now[a]?=some (zDM o))(ho:HeadOk o)(hn:now.length<=1048576)(hb:beg[a]?=some true){k:Int}(hk:k>=(if o.kind=4 then 0 else(o.size:Int))): zAp prog 41 [.ptr 0 0,.d (w64 (2*a)),.d (i64 k)] (HO size now other beg) (.tup [w64 0,bl false]):=by
 have hB:=zKi size now other beg h ho hn hb
 have h0:0<=(if o.kind=4 then 0 else(o.size:Int)):=by split <;> omega
 generalize (if o.kind=4 then 0 else(o.size:Int))=q at *
 have h1:¬k<0:=by omega
 refine zCq func41 rfl ntmps41 results41 rfl ?_
 intro wb St0
 exact yU
theorem zV4(size:Int)(now other:List Nat)(beg:List Bool){a:Nat}{o:Thing}(h:now[a]?=some (zDM o))(ho:HeadOk o)(hn:now.length<=1048576)(hb:beg[a]?=some true){k x:Nat}(h4:o.kind≠4)(hk:k<o.size)(hx:now[a+1+k]?=some x): zAp prog 41 [.ptr 0 0,.d (w64 (2*a)),.d (i64 (k:Int))] (HO size now other beg) (.tup [w64 x,bl true]):=by
 have hB:=zKi size now other beg h ho hn hb
 rw[if_neg h4]at hB
 have hl:=(qAA.1 hx).1
 have h1:¬(k:Int)<0:=by omega
 have h2:¬(k:Int)>=(o.size:Int):=by omega
 have h5:=zVi a (by omega)
 refine zCq func41 rfl ntmps41 results41 rfl ?_
 intro wb St0
 exact yK
theorem zS6(size:Int)(now other:List Nat)(beg:List Bool){a:Nat}{o:Thing}(h:now[a]?=some (zDM o))(ho:HeadOk o)(hn:now.length<=1048576)(hb:beg[a]?=some true){k x w:Nat}(h4:o.kind≠4)(hk:k<o.size)(hx:now[a+1+k]?=some x)(hw:zAp prog 131 [.ptr 0 0,.d (w64 w)] (HO size now other beg) (bl true)):
  zAW prog 137 [.ptr 0 0,.d (w64 (2*a)),.d (i64 (k:Int)),.d (w64 w)] (HO size now other beg) (.d (bl true)) (HO size (now.set (a+1+k) w) other beg):=by
 have hP:=zV4 size now other beg h ho hn hb h4 hk hx
 have hl:=(qAA.1 hx).1
 have h5:=zVi a (by omega)
 refine zEh func137 rfl ntmps137 results137 rfl rfl rfl ?_
 intro wb St0 X fx
 repeat' first|apply en_n|apply zAE|apply zAA|apply zAB|apply w0|exact qcA [0,1,2,3] [] zF8 (hP)|exact qcA [0,1,2,3] [] zLc (hw)|(apply zNe;exact rfl;exact rfl;exact(by decide))|(apply zBQ;exact rfl;exact rfl;exact rfl;(with_reducible exact zBk);omega;(rw[zAq];omega))|(refine zH6 rfl rfl rfl zBj rfl rfl ?_ rfl ?_)|refine ayA rfl ?_|refine ayW rfl ?_|apply ay (hd:=rfl)|refine zBp rfl rfl ?_|refine w1 rfl rfl ?_|(refine w0' ?_)|refine zAI rfl ?_|apply zAP|apply zAM
 all_goals first|omega|skip
 ·rw[zAq];omega
 ·exact zDe (zAU (Le_all rfl) (zAK rfl (show Ob.bx _ _ [.buf 1 (now.set (a+1+k) w).length,_,_,_]=_ by rw[qAZ];rfl) (zAs rfl rfl (show w64s (now.set (a+1+k) w)=_ by rw[<-zJA];congr 1;omega) (zAK rfl rfl (zAK rfl rfl zAe)))) rfl rfl)
theorem zcw(size:Int)(now other:List Nat)(beg:List Bool)(first:Nat)(st:List Nat)(off n:Nat)(hs:0<=size/\size<=1048576)(hn:now.length+1+n<=size)(hb:beg.length=size)(hl:off+n<=st.length)(hst:st.length<=1048576):
  zAW prog 132 [.ptr 0 0,.d (w64 first),.bsl 4 off n] (HO size now other beg++[.buf true 58 1 (w64s st)]) (.d (.tup [w64 (2*now.length),bl true])) (HO size (now++first::(st.drop off).take n) other (beg.set now.length true)++[.buf true 58 1 (w64s st)]):=by
 have hL:=zL4 size now other beg (by omega)
 have hN:=zL3 n (by omega)
 have hlt:¬size-(now.length:Int)<((n+1:Nat):Int):=by omega
 refine zLR func132 rfl ntmps132 results132 rfl rfl rfl ?_
 intro wb St0 X fx
 repeat' first|apply en_n|apply zAE|apply zAA|apply zAB|apply w0|(apply aApp (id:=1) (hd:=rfl) (hro:=rfl);exact rfl;exact rfl;exact zA0 rfl;exact(zAq now).symm;exact rfl;(with_reducible exact zCh);(with_reducible exact zBk);(with_reducible exact zGE);(with_reducible exact zEm);exact zCu rfl)|(apply zVr (id:=1) (id2:=4) (hd:=rfl) (hro:=rfl);exact rfl;exact rfl;(show now.length+1<=_;rw[qAE,zAq];exact qAP _);(intro c;cases c);exact rfl;exact rfl;(rw[zAq];omega);(with_reducible exact zCh);(with_reducible exact zBk);(with_reducible exact zGE);(with_reducible exact zEm);exact zIp st)|exact qcA [0,1,2,3] [] zF9 (hL)|exact ycA zFc hN|exact zIZ rfl|exact zH8 rfl zDF|(apply zBQ;exact rfl;exact rfl;exact rfl;(with_reducible exact zII);omega;(rw[zHd];omega))|(refine zH6 rfl rfl rfl zAm rfl rfl ?_ rfl ?_)|(apply zPH;exact rfl;exact rfl;exact(by decide))|refine ayA rfl ?_|refine ayQ rfl ?_|refine ayW rfl ?_|refine ayL rfl ?_|apply ay (hd:=rfl)|(refine w0' ?_)|refine aStA ?_|refine zAI rfl ?_|apply zAP|apply zAM
 all_goals first|omega|skip
 ·rw[zHd];omega
 ·simp only[qAN,qAj];omega
 ·simp only[qAN,qAj];omega
 ·have e1:(now++first::(st.drop off).take n).length=now.length+1+n:=by
   rw[qAE,qAN,qAG,qAd];omega
  have e2:w64s (now++first::(st.drop off).take n)=(w64s now++[w64 first]).take (now.length + [w64 first].length)++((w64s st).drop off).take n:=by
   have e0:(w64s now++[w64 first]).take (now.length+1)=w64s now++[w64 first]:=qAe (by simp[w64s])
   show _=(w64s now++[w64 first]).take (now.length+1)++_
   rw[e0]
   simp[w64s,List.map_drop,List.map_take]
  have e3:bls (beg.set now.length true)=(bls beg).set ((now.length:Nat):Int).toNat (D.val (Value.bool true)):=by
   rw[qAn,bls,bls,qBr]
  exact zIQ (zBu (RV_d rfl (RV_d rfl zA5 rfl) (zKn (by rw[show (2:Int) ^ min (1:Int).toNat IntKind.u64.bits=2 by decide,zEU,zEU];omega))))
   (zAU Le_nil (zAK rfl (show Ob.bx _ _ [.buf 1 (now++first::(st.drop off).take n).length,_,_,.buf 3 (beg.set now.length true).length]=_ by rw[qAZ,e1];rfl) (zAs rfl rfl e2 (zAK rfl rfl (zAs rfl rfl e3 (zAK rfl rfl zAe))))) rfl rfl)
end
section
abbrev HX(size:Int)(now other:List Nat)(beg:List Bool)(st:List Nat): List Ob:=HO size now other beg++[Ob.buf true 58 1 (w64s st)]
attribute [local irreducible] zAL Program.underlying Ylds zA2 alex zBZ zBP awp zAb zBh zBg zAW zAp zBR zAr zBV zBY zBe zBM zA8 zBE
end
section
open _root_.Go.Proofs.Tryz
abbrev HM(size:Int)(now other:List Nat)(beg be:List Bool): List Ob:=HO size now other beg++[Ob.bx none (some 4) ((bls be).map .d)]
theorem zdi{l:List Bool}{i:Int}(h:i.toNat<l.length): Nat.ble (i.toNat+1) ((bls l).map SV.d).length=true:=Nat.ble_eq_true_of_le (by rw[qAC,zHd];omega)
theorem zdh(l:List Bool)(i:Nat)(h:i<l.length): ((bls l).map SV.d).take i++[.d (bl true)]++((bls l).map SV.d).drop (i+1)=(bls (l.set i true)).map SV.d:=by
 rw[bls,bls,qBr,qBr,qBd,if_pos (by simp;exact h)];simp
theorem zW6{f:SV->SV}(hf:∀d,f (.d d)=.d d)(L:List D): (L.map SV.d).map f=L.map SV.d:=by
 rw[qBt];exact qBg fun d _=>hf d
theorem zLE(m:Nat)(L:List D): (L.map SV.d).all (SV.bel m)=true:=by
 rw[List.all_map];exact qAb.2 fun d _=>rfl
theorem zKT(i:Nat)(k:Option Nat)(et:Option TypeId)(L:List D): Ob.kill i (.bx k et (L.map SV.d))=.bx k et (L.map SV.d):=congrArg (Ob.bx k et) (zW6 (fun _=>rfl) L)
theorem zaL(ids:List Nat)(k:Option Nat)(et:Option TypeId)(L:List D): Ob.ren ids (.bx k et (L.map SV.d))=.bx k et (L.map SV.d):=congrArg (Ob.bx k et) (zW6 (fun _=>rfl) L)
theorem zPP(k k' et:Option Nat)(a b e:Nat)(c:D)(o1 o2 o3:Nat×List D)(L:List D): [Ob.bx k none [.buf 1 a,.buf 2 b,.d c,.buf 3 e],.buf true o1.1 1 o1.2,.buf true o2.1 1 o2.2,.buf true o3.1 1 o3.2,.bx k' et (L.map SV.d)].all (Ob.below 5)=true:=by
 simp only[List.all_cons,List.all_nil,Ob.below,zLE];rfl
attribute [local irreducible] zAL Program.underlying Ylds zA2 alex zBZ zBP awp zAb zBh zBg zAW zAp zBR zAr zBV zBY zBe zBM zA8 zBE
theorem zWg(x:Nat)(h:x<18446744073709551616): zAb prog 99 [w64 x] (.tup [i64 ((x%8:Nat):Int),i64 ((x / 65536:Nat):Int),i64 ((x / 8%8192:Nat):Int)]):=by
 have e1:=zY8 _ h
 have e2:=zYq x
 have e3:=zaH x
 have e4:=zVZ (x / 8) (by omega)
 refine zB0 func99 rfl ntmps99 results99 rfl ?_
 intro wb St0
 repeat' first|apply en_n|apply zAE|apply zAA|apply zAB|apply w0|(refine zAX ?_)|(refine zBu ?_)|exact zA5|(refine RV_d rfl ?_ ?_)|(apply zNe;exact rfl;exact rfl;exact(by decide))|exact zPJ rfl rfl|refine ayA rfl ?_|refine ayW rfl ?_|apply ay (hd:=rfl)|apply zAM
 all_goals first|rfl|skip
 ·rw[e3,e4,zId];refine congrArg (fun x=>D.val (.int .i64 x)) ?_;omega
 ·rw[e2,zId];refine congrArg (fun x=>D.val (.int .i64 x)) ?_;omega
 ·rw[e1,zId];refine congrArg (fun x=>D.val (.int .i64 x)) ?_;omega
theorem zXd(size:Int)(now other:List Nat)(beg be:List Bool){w:Nat}(h:w%2=1)(hw:w<18446744073709551616):
  zBF prog 153 [.ptr 0 0,.d (w64 w)] 4 be.length (HM size now other beg be) (.d (w64 w)) (HM size now other beg be):=by
 have h1:=zSX w hw
 have h2:IntKind.u64.wrap (BitVec.ofInt IntKind.u64.bits (w:Int) &&& BitVec.ofInt IntKind.u64.bits 1).toNat=1:=by rw[h1];omega
 have ha:=zVh size now other beg h hw
 refine zLT func153 rfl ntmps153 results153 rfl rfl rfl ?_
 intro wb St0 X fx
 repeat' first|apply en_n|apply zAE|apply zAA|apply zAB|apply w0|exact zPJ rfl rfl|exact qcA [0,1,2,3] [] zHZ (ha)|refine ayA rfl ?_|refine ayQ rfl ?_|apply ay (hd:=rfl)|refine zAJ rfl ?_|apply zAM|apply en_r
 all_goals exact zDe (zAU (Le_all rfl) (zAK rfl rfl (zAK rfl rfl (zAK rfl rfl (zAK rfl rfl (zAK rfl rfl zAe))))) rfl (zPP _ _ _ _ _ _ _ (_,_) (_,_) (_,_) _))
theorem zXc(size:Int)(now other:List Nat)(beg be:List Bool){a k:Nat}(h:now[a]?=some (8*k))(hk:k<=1048576)(hn:now.length<=1048576)(hb:beg[a]?=some true):
  zBF prog 153 [.ptr 0 0,.d (w64 (2*a))] 4 be.length (HM size now other beg be) (.d (w64 (2*k))) (HM size now other beg be):=by
 have hl:=(qAA.1 h).1
 have ha:=zYM size now other beg hl hn hb
 have ht:=zWg (8*k) (by omega)
 have h0:((8*k%8:Nat):Int)=0:=by omega
 refine zLT func153 rfl ntmps153 results153 rfl rfl rfl ?_
 intro wb St0 X fx
 repeat' first|apply en_n|apply zAE|apply zAA|apply zAB|apply w0|(apply zPH;exact rfl;exact rfl;exact(by decide))|(apply zNe;exact rfl;exact rfl;exact(by decide))|exact qcA [0,1,2,3] [] zHZ (ha)|exact ycA zFb ht|(apply zBQ;exact rfl;exact rfl;exact rfl;(with_reducible exact zBk);omega;(rw[zAq];omega))|(apply zCT;exact rfl;(with_reducible exact zBj);exact rfl;(show (w64s now)[Int.toNat _]?=some (w64 (8*k));rw[qAn];exact zEI h);exact rfl)|refine ayA rfl ?_|refine ayQ rfl ?_|apply ay (hd:=rfl)|refine zAJ rfl ?_|refine zAI rfl ?_|apply zAP|apply zAM|apply en_r
 all_goals exact zDe (zAU (Le_d rfl (by refine(zKn ?_).symm;rw[zaH,show (2:Int) ^ min (1:Int).toNat IntKind.u64.bits=2 by decide,zEU];omega) Le_nil) (zAK rfl rfl (zAK rfl rfl (zAK rfl rfl (zAK rfl rfl (zAK rfl rfl zAe))))) rfl (zPP _ _ _ _ _ _ _ (_,_) (_,_) (_,_) _))
theorem zXe(size:Int)(now other:List Nat)(beg be:List Bool){a:Nat}{o:Thing}(h:now[a]?=some (zDM o))(ho:HeadOk o)(hk:1<=o.kind)(hb:beg[a]?=some true)(hs:a+1+o.size<=now.length)(hn:now.length<=1048576)(hbe:other.length<be.length)(hot:other.length<=1048576):
  zBF prog 153 [.ptr 0 0,.d (w64 (2*a))] 4 be.length (HM size now other beg be) (.d (w64 (2*other.length))) (HM size (now.set a (8*other.length)) (other++(now.drop a).take (o.size+1)) beg (be.set other.length true)):=by
 have hl:=(qAA.1 h).1
 have ha:=zYM size now other beg hl hn hb
 have ht:=zPb o ho
 have h0:¬o.kind=0:=by omega
 have hz:o.size<=1048576:=by omega
 refine zLT func153 rfl ntmps153 results153 rfl rfl rfl ?_
 intro wb St0 X fx
 repeat' first|(refine zSu (rid:=12) [.ptr 0 0,.ptr 0 0,.ptr 0 0,.ptr 0 1,.buf 2 other.length,.ptr 0 0,.ptr 0 0,.ptr 0 0,.buf 1 now.length,.d (i64 (a:Int)),.d (i64 (a:Int)),.d (i64 ((a:Int)+1)),.d (i64 (o.size:Int)),.d (i64 ((a:Int)+1+(o.size:Int))),.bsl 1 ((a:Int)).toNat (((a:Int)+1+(o.size:Int)).toNat-((a:Int)).toNat),.top] 15 2 (by kernel_rfl) (by kernel_rfl) rfl rfl rfl (.inr (by kernel_rfl)) ⟨.inr ⟨⟨rfl,zAQ rfl⟩,rfl,rfl,.inr ⟨rfl,rfl,zAQ rfl⟩⟩,⟨.inr ⟨⟨rfl,zAQ rfl⟩,rfl,rfl,.inl (by kernel_rfl)⟩,⟨.inr ⟨⟨rfl,zAa rfl⟩,rfl,rfl,.inl (by kernel_rfl)⟩,⟨.inr ⟨⟨rfl,zAF rfl zEq⟩,rfl,rfl,.inl (by kernel_rfl)⟩,⟨.inr ⟨⟨rfl,zAG rfl zBS rfl rfl⟩,rfl,rfl,.inl (by kernel_rfl)⟩,⟨.inr ⟨⟨rfl,zAQ rfl⟩,rfl,rfl,.inl (by kernel_rfl)⟩,⟨.inr ⟨⟨rfl,zAa rfl⟩,rfl,rfl,.inl (by kernel_rfl)⟩,⟨.inr ⟨⟨rfl,zAF rfl zDO⟩,rfl,rfl,.inl (by kernel_rfl)⟩,⟨.inr ⟨⟨rfl,zAG rfl zBS rfl rfl⟩,rfl,rfl,.inl (by kernel_rfl)⟩,⟨.inr ⟨⟨rfl,zAD rfl⟩,rfl,rfl,.inl (by kernel_rfl)⟩,⟨.inr ⟨⟨rfl,zAD rfl⟩,rfl,rfl,.inl (by kernel_rfl)⟩,⟨.inr ⟨⟨rfl,zBp rfl rfl (by omega)⟩,rfl,rfl,.inl (by kernel_rfl)⟩,⟨.inr ⟨⟨rfl,zAD rfl⟩,rfl,rfl,.inl (by kernel_rfl)⟩,⟨.inr ⟨⟨rfl,zBp rfl rfl (by omega)⟩,rfl,rfl,.inl (by kernel_rfl)⟩,⟨.inr ⟨⟨rfl,zbr rfl rfl zBk rfl rfl (by omega) (by rw[zAq];omega)⟩,rfl,rfl,.inl (by kernel_rfl)⟩,⟨.inl rfl,trivial⟩⟩⟩⟩⟩⟩⟩⟩⟩⟩⟩⟩⟩⟩⟩⟩ rfl rfl rfl rfl (by rw[zAq];omega) (by rw[zAq];omega) (fun c=>by cases c) zCh zBk zGE zEm (zIp now) (by omega) rfl rfl ?_)|apply en_n|apply zAE|apply zAA|apply zAB|apply w0|(refine zCJ (by kernel_rfl) ?_;refine aStA ?_)|(apply zPH;exact rfl;exact rfl;exact(by decide))|exact qcA [0,1,2,3] [] zHZ (ha)|exact ycA zFb ht|(apply zBQ;exact rfl;exact rfl;exact rfl;(with_reducible exact zBk);omega;(rw[zAq];omega))|(apply Y_index_row (id:=4);exact rfl;exact rfl;exact rfl;(with_reducible exact zII);omega)|exact zNf rfl|(apply zCT;exact rfl;(with_reducible exact zBj);exact rfl;(show (w64s now)[Int.toNat _]?=some (w64 (zDM o));rw[qAn];exact zEI h);exact rfl)|(refine zAd rfl rfl rfl zAm rfl rfl (zdi ?_) rfl ?_)|(refine zH6 rfl rfl rfl zBj rfl rfl ?_ rfl ?_)|refine ayA rfl ?_|refine ayQ rfl ?_|refine ayW rfl ?_|apply ay (hd:=rfl)|(refine w0' ?_)|refine zAI rfl ?_|apply zAP|apply zAM
 all_goals first|omega|skip
 ·rw[zAq];omega
 ·have q:((a:Int)+1+(o.size:Int)).toNat-((a:Int)).toNat=o.size+1:=by omega
  have e1:(other++(now.drop a).take (o.size+1)).length=other.length+(((a:Int)+1+(o.size:Int)).toNat-((a:Int)).toNat):=by
   rw[qAE,qAG,qAd];omega
  have e2:w64s (other++(now.drop a).take (o.size+1))=(w64s other).take other.length++((w64s now).drop ((a:Int)).toNat).take (((a:Int)+1+(o.size:Int)).toNat-((a:Int)).toNat):=by
   rw[q,qAn,qAe (qA2 (zAq other))]
   simp[w64s,List.map_drop,List.map_take]
  have e3:=zdh be other.length hbe
  have e4:w64s (now.set a (8*other.length))=(w64s now).set ((a:Nat):Int).toNat (D.val (.int .u64 (IntKind.u64.wrap (IntKind.u64.wrap (other.length:Int)*2 ^ min (3:Int).toNat IntKind.u64.bits)))):=by
   rw[<-zJA,qAn]
   refine congrArg _ ?_
   refine(zKn ?_).symm
   rw[show (2:Int) ^ min (3:Int).toNat IntKind.u64.bits=8 by decide,zEU,zEU];omega
  exact zDe (zAU (Le_d rfl (by refine(zKn ?_).symm;rw[show (2:Int) ^ min (1:Int).toNat IntKind.u64.bits=2 by decide,zEU,zEU];omega) Le_nil)
   (zAK rfl (show Ob.bx _ _ [.buf 1 (now.set a (8*other.length)).length,.buf 2 (other++(now.drop a).take (o.size+1)).length,_,_]=_ by rw[qAZ,e1];rfl) (zAs rfl rfl e4 (zAs rfl rfl e2 (zAK rfl rfl (zAK rfl (((congrArg (fun l=>Ob.kill 2 (Ob.bx (fx 4) (some 4) l)) e3).trans (zKT 2 _ _ _)).symm) zAe))))) rfl (zPP _ _ _ _ _ _ _ (_,_) (_,_) (_,_) _))
end
section
open _root_.Go.Proofs.Tryz
abbrev HC(all:List Thing)(ly:List Nat)(size:Nat)(ord:List Nat)(X:List Nat): List Ob:=HM (size:Int) (nowM all ly ord) X (begL all ly size) (begL all ord size)
attribute [local irreducible] zAL Program.underlying Ylds zA2 alex zBZ zBP awp zAb zBh zBg zAW zBF zAp zBR zAr zBV zBY zBe zBM zA8 zBE
theorem zQ4{all:List Thing}{ly ord X:List Nat}{size:Nat}(hn:ly.Nodup)(hno:ord.Nodup)(hs:∀j∈ord,j∈ly)(hX:X.length=sumN all ord)(hH:∀i∈ly,HeadOk (zAc all i)/\1<=(zAc all i).kind)(hsz:sumN all ly<=size)(h20:size<=1048576)(r:Rf)(hr:In ly r):
  zBF prog 153 [.ptr 0 0,.d (w64 (wdN all ly r))] 4 size (HC all ly size ord X) (.d (w64 (wdN all (addN ord [r]) r))) (HC all ly size (addN ord [r]) (X++newB all ly ord r)):=by
 have hnl:=zXa all ly ord
 have hso:sumN all ord<=sumN all ly:=zGd hno hs
 have hbl:(begL all ord size).length=size:=zLp all ord (by omega)
 cases r with
 |n v =>
  rw[zKh]
  obtain⟨o1,o2⟩:=zQT all ly v
  have h:=zXd (size:Int) (nowM all ly ord) X (begL all ly size) (begL all ord size) o1 o2
  rw[hbl]at h
  simp only[newB,qBC]
  exact h
 |b i =>
  have hi:=hr i rfl
  have hoff:=zOR (all:=all) hi
  have hnp:=zHP (zAc all i)
  have hnz:=zD7 (zAc all i)
  have hb:=zLq (all:=all) (size:=size) hi
  rw[zKh]
  by_cases ho:i∈ord
  ·simp only[if_pos ho,newB,qBC]
   have hof2:=zOR (all:=all) ho
   have h:=zXc (size:Int) (nowM all ly ord) X (begL all ly size) (begL all ord size) (a:=offL all ly i) (k:=offL all ord i) (by rw[<-qA6 (offL all ly i),zUf hi (by omega),zbT ho]) (by omega) (by omega) hb
   rw[hbl]at h
   exact h
  ·simp only[if_neg ho,newB]
   obtain⟨hh,hkd⟩:=hH i hi
   have hroom:=zUk (all:=all) hno hs hi ho
   have h:=zXe (size:Int) (nowM all ly ord) X (begL all ly size) (begL all ord size) (a:=offL all ly i) (o:=zAc all i) (by rw[<-qA6 (offL all ly i),zUf hi (by omega),zVC ho];rfl) hh hkd hb (by omega) (by omega) (by rw[hbl];omega) (by omega)
   rw[hbl,hX,Nat.mul_comm 8,zUe hn hi ho,zRc (all:=all) (ord:=ord) (i:=i) (by omega),<-hnz,show ((nowM all ly ord).drop (offL all ly i)).take (zAc all i).need=zDU all ly i from(zYF (zNQ all ly ord) hi).trans (zVC ho)]at h
   rw[show wdN all (ord++[i]) (.b i)=2*sumN all ord by rw[wdN,zKX ho]]
   exact h
