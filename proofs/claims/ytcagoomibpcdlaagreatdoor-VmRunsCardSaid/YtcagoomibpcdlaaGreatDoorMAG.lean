import Derived.Test.YtcagoomibpcdlaaGreatDoorMAZ
set_option maxHeartbeats 16000000
namespace Go.Proofs.YtcagoomibpcdlaaGreatDoor
open Go.Sx Go.Vm
open _root_.Go.Proofs.Tryz
section
theorem W_Wn(n:Int): W n=Wn n:=rfl
theorem zar(all:List Thing)(ly:List Nat)(n:Int): D.val (.int .u64 (IntKind.u64.wrap (BitVec.ofInt IntKind.u64.bits (IntKind.u64.wrap (IntKind.u64.wrap (W n)*2 ^ min (1:Int).toNat IntKind.u64.bits)) ||| BitVec.ofInt IntKind.u64.bits 1).toNat))=w64 (wdN all ly (numR n)):=by
 refine zKn ?_
 have e1:IntKind.u64.wrap (IntKind.u64.wrap (W n)*2 ^ min (1:Int).toNat IntKind.u64.bits)=((((Wn n)%18446744073709551616*2)%18446744073709551616).toNat:Int):=by
  rw[zEU,zEU,W_Wn,show (2:Int) ^ min (1:Int).toNat IntKind.u64.bits=2 by decide];omega
 rw[e1]
 exact(or64 (b:=1) (by omega) (by decide)).trans (zXZ all ly n)
theorem zSX(a:Nat)(h:a<18446744073709551616): IntKind.u64.wrap (BitVec.ofInt IntKind.u64.bits (a:Int) &&& BitVec.ofInt IntKind.u64.bits 1).toNat=((a%2:Nat):Int):=by
 exact(zbn (b:=1) h (by decide)).trans (by rw[zfA])
theorem zY8(a:Nat)(h:a<18446744073709551616): IntKind.u64.wrap (BitVec.ofInt IntKind.u64.bits (a:Int) &&& BitVec.ofInt IntKind.u64.bits 7).toNat=((a%8:Nat):Int):=by
 exact(zbn (b:=7) h (by decide)).trans (by rw[ze9])
theorem zVZ(a:Nat)(h:a<18446744073709551616): IntKind.u64.wrap (BitVec.ofInt IntKind.u64.bits (a:Int) &&& BitVec.ofInt IntKind.u64.bits 8191).toNat=((a%8192:Nat):Int):=by
 exact(zbn (b:=8191) h (by decide)).trans (by rw[zdn])
theorem zcl(a:Nat): (a:Int).fdiv (2 ^ min (1:Int).toNat IntKind.u64.bits)=((a / 2:Nat):Int):=by
 rw[show (2:Int) ^ min (1:Int).toNat IntKind.u64.bits=2 by decide,qBi _ (by decide)];omega
theorem zaH(a:Nat): (a:Int).fdiv (2 ^ min (3:Int).toNat IntKind.u64.bits)=((a / 8:Nat):Int):=by
 rw[show (2:Int) ^ min (3:Int).toNat IntKind.u64.bits=8 by decide,qBi _ (by decide)];omega
theorem zYq(a:Nat): (a:Int).fdiv (2 ^ min (16:Int).toNat IntKind.u64.bits)=((a / 65536:Nat):Int):=by
 rw[show (2:Int) ^ min (16:Int).toNat IntKind.u64.bits=65536 by decide,qBi _ (by decide)];omega
attribute [local irreducible] zAL Program.underlying Ylds zA2 alex zBZ zBP awp zAb zBh zBg zAW zAp zBR zAr zBV zBY zBe zBM zA8
theorem zRq(all:List Thing)(ly:List Nat)(n:Int): zAb prog 20 [i64 n] (w64 (wdN all ly (numR n))):=by
 have hW:=zFp n
 refine zAj func20 rfl ntmps20 results20 rfl ?_
 intro wb St0
 repeat' first|apply en_n|apply zAE|apply zAA|apply zAB|apply w0|(apply zPH;exact rfl;exact rfl;exact(by decide))|exact Y_or rfl rfl|exact ycA zFw hW|refine ayA rfl ?_|refine ayW rfl ?_|apply ay (hd:=rfl)|apply zAM|apply zAS|refine res1 rfl ?_
 all_goals exact zar all ly n
theorem zIA(all:List Thing)(ly:List Nat){v:Int}(h:Wn v=v): zAb prog 54 [w64 (wdN all ly (.n v))] (.tup [i64 v,bl true]):=by
 obtain⟨o1,o2⟩:=zQT all ly v
 have h1:=zSX _ o2
 have hv:=zSd all ly h
 generalize wdN all ly (.n v)=w at *
 have h2:¬IntKind.u64.wrap (BitVec.ofInt IntKind.u64.bits (w:Int) &&& BitVec.ofInt IntKind.u64.bits 1).toNat=0:=by rw[h1];omega
 refine zAj func54 rfl ntmps54 results54 rfl ?_
 intro wb St0
 repeat' first|apply en_n|apply zAE|apply zAA|apply zAB|apply w0|(apply zNe;exact rfl;exact rfl;exact(by decide))|exact zPJ rfl rfl|(apply zAx;exact rfl;exact rfl;assumption)|refine ayA rfl ?_|refine ayW rfl ?_|apply ay (hd:=rfl)|refine zAI rfl ?_|apply zAP|apply zAM|apply zAS|(apply res2;exact rfl;exact rfl)
 ·rw[zId,show (2:Int) ^ min (1:Int).toNat IntKind.i64.bits=2 by decide,hv]
 ·rfl
theorem zI9(all:List Thing)(ly:List Nat){i:Nat}(h:wdN all ly (.b i)<18446744073709551616): zAb prog 54 [w64 (wdN all ly (.b i))] (.tup [i64 0,bl false]):=by
 have o1:=zZX all ly i
 have h1:=zSX _ h
 generalize wdN all ly (.b i)=w at *
 have h2:IntKind.u64.wrap (BitVec.ofInt IntKind.u64.bits (w:Int) &&& BitVec.ofInt IntKind.u64.bits 1).toNat=0:=by rw[h1];omega
 refine zAj func54 rfl ntmps54 results54 rfl ?_
 intro wb St0
 exact yM
theorem zL3(n:Nat)(h:n<=2000000): zAb prog 77 [i64 (n:Int)] (i64 ((n+1:Nat):Int)):=by
 refine zAj func77 rfl ntmps77 results77 rfl ?_
 intro wb St0
 exact yK
theorem zI8(s:List UInt8)(h:s.length<=1000000): zAb prog 126 [str s] (i64 (((s.length+7) / 8+1:Nat):Int)):=by
 have hN:=zL3 ((s.length+7) / 8) (by omega)
 refine zAj func126 rfl ntmps126 results126 rfl ?_
 intro wb St0
 exact yK
theorem zPb(o:Thing)(h:HeadOk o): zAb prog 99 [w64 (zDM o)] (.tup [i64 o.kind,i64 o.tag,i64 (o.size:Int)]):=by
 obtain⟨t1,t2,t3,t4⟩:=zUz h
 have e1:=zY8 _ t4
 have e2:=zYq (zDM o)
 have e3:=zaH (zDM o)
 have e4:=zVZ (zDM o / 8) (by omega)
 refine zB0 func99 rfl ntmps99 results99 rfl ?_
 intro wb St0
 repeat' first|apply en_n|apply zAE|apply zAA|apply zAB|apply w0|(refine zAX ?_)|(refine zBu ?_)|exact zA5|(refine RV_d rfl ?_ ?_)|(apply zNe;exact rfl;exact rfl;exact(by decide))|exact zPJ rfl rfl|refine ayA rfl ?_|refine ayW rfl ?_|apply ay (hd:=rfl)|apply zAM
 all_goals first|rfl|skip
 ·rw[e3,e4,zId];refine congrArg (fun x=>D.val (.int .i64 x)) ?_;omega
 ·have:=h.tag;rw[e2,zId];refine congrArg (fun x=>D.val (.int .i64 x)) ?_;omega
 ·have:=h.kind;rw[e1,zId];refine congrArg (fun x=>D.val (.int .i64 x)) ?_;omega
theorem zU0(o:Thing)(h:HeadOk o): zAb prog 133 [i64 o.kind,i64 o.tag,i64 (o.size:Int)] (w64 (zDM o)):=by
 have hk:=h.kind
 have htg:=h.tag
 have hsz:=h.size
 have f1:IntKind.u64.wrap (IntKind.u64.wrap o.tag*2 ^ min (16:Int).toNat IntKind.u64.bits)=((o.tag.toNat*65536:Nat):Int):=by
  rw[show (2:Int) ^ min (16:Int).toNat IntKind.u64.bits=65536 by decide,zEU,zEU];omega
 have f2:IntKind.u64.wrap (IntKind.u64.wrap (o.size:Int)*2 ^ min (3:Int).toNat IntKind.u64.bits)=((o.size*8:Nat):Int):=by
  rw[show (2:Int) ^ min (3:Int).toNat IntKind.u64.bits=8 by decide,zEU,zEU];omega
 have f3:IntKind.u64.wrap o.kind=((o.kind.toNat:Nat):Int):=by rw[zEU];omega
 have f4:=or64 (a:=o.tag.toNat*65536) (b:=o.size*8) (by omega) (by omega)
 have hor:o.tag.toNat*65536 ||| o.size*8<18446744073709551616:=Nat.or_lt_two_pow (n:=64) (by omega) (by omega)
 have f5:=or64 (a:=o.tag.toNat*65536 ||| o.size*8) (b:=o.kind.toNat) hor (by omega)
 have f6:=zbD h
 refine zAj func133 rfl ntmps133 results133 rfl ?_
 intro wb St0
 repeat' first|apply en_n|apply zAE|apply zAA|apply zAB|apply w0|(apply zPH;exact rfl;exact rfl;exact(by decide))|exact Y_or rfl rfl|refine ayA rfl ?_|refine ayW rfl ?_|apply ay (hd:=rfl)|apply zAM|apply zAS|refine res1 rfl ?_
 all_goals rw[f1,f2,f4,f3,f5,f6]
end
section
def w64s(l:List Nat): List D:=l.map w64
def bls(l:List Bool): List D:=l.map bl
theorem zAq(l:List Nat): (w64s l).length=l.length:=qAC _
theorem zHd(l:List Bool): (bls l).length=l.length:=qAC _
abbrev HO(size:Int)(now other:List Nat)(beg:List Bool): List Ob :=
 [.box [.buf 1 now.length,.buf 2 other.length,.d (i64 size),.buf 3 beg.length],.buf true 58 1 (w64s now),.buf true 58 1 (w64s other),.buf true 4 1 (bls beg)]
attribute [local irreducible] zAL Program.underlying Ylds zA2 alex zBZ zBP awp zAb zBh zBg zAW zAp zBR zAr zBV zBY zBe zBM zA8
theorem zL4(size:Int)(now other:List Nat)(beg:List Bool)(h:0<=size/\size<=1048576/\now.length<=1048576): zAp prog 128 [.ptr 0 0] (HO size now other beg) (i64 (size-(now.length:Int))):=by
 refine zCq func128 rfl ntmps128 results128 rfl ?_
 intro wb St0
 exact yN
theorem zVh(size:Int)(now other:List Nat)(beg:List Bool){w:Nat}(h:w%2=1)(hw:w<18446744073709551616): zAp prog 98 [.ptr 0 0,.d (w64 w)] (HO size now other beg) (.tup [i64 0,bl false]):=by
 have h1:=zSX w hw
 have h2:IntKind.u64.wrap (BitVec.ofInt IntKind.u64.bits (w:Int) &&& BitVec.ofInt IntKind.u64.bits 1).toNat=1:=by rw[h1];omega
 refine zCq func98 rfl ntmps98 results98 rfl ?_
 intro wb St0
 exact yM
theorem zYM(size:Int)(now other:List Nat)(beg:List Bool){a:Nat}(h:a<now.length)(hn:now.length<=1048576)(hb:beg[a]?=some true): zAp prog 98 [.ptr 0 0,.d (w64 (2*a))] (HO size now other beg) (.tup [i64 (a:Int),bl true]):=by
 have h1:=zSX (2*a) (by omega)
 have h2:¬IntKind.u64.wrap (BitVec.ofInt IntKind.u64.bits ((2*a:Nat):Int) &&& BitVec.ofInt IntKind.u64.bits 1).toNat=1:=by rw[h1];omega
 have h3:(((2*a:Nat):Int)).fdiv (2 ^ min (1:Int).toNat IntKind.u64.bits)=(a:Int):=by rw[zcl];omega
 have h4:¬(((2*a:Nat):Int)).fdiv (2 ^ min (1:Int).toNat IntKind.u64.bits)>=IntKind.u64.wrap (now.length:Int):=by rw[h3,zEU];omega
 have hbl:=(qAA.1 hb).1
 refine zCq func98 rfl ntmps98 results98 rfl ?_
 intro wb St0
 repeat' first|apply en_n|apply zAE|apply zAA|apply zAB|apply w0|(apply zNe;exact rfl;exact rfl;exact(by decide))|exact zPJ rfl rfl|(apply zAx;exact rfl;exact rfl;assumption)|(apply zGo;exact rfl;exact rfl;assumption)|(apply zBQ;exact rfl;exact rfl;exact rfl;(with_reducible exact zII);(rw[h3];omega);(rw[zHd];omega))|(apply zCT;exact rfl;(with_reducible exact zAm);exact rfl;(show (bls beg)[Int.toNat _]?=some (bl true);rw[h3,qAn,bls,qAH,hb];rfl);exact rfl)|refine ayA rfl ?_|refine ayW rfl ?_|apply ay (hd:=rfl)|refine w1 rfl rfl ?_|refine zAI rfl ?_|apply zAP|apply zAM|apply zAS|(apply res2;exact rfl;exact rfl)
 ·rw[h3,zId];refine congrArg (fun x=>D.val (.int .i64 x)) ?_;omega
 ·rfl
theorem zTM(size:Int)(now other:List Nat)(beg:List Bool){w:Nat}(h:w%2=1)(hw:w<18446744073709551616): zAp prog 131 [.ptr 0 0,.d (w64 w)] (HO size now other beg) (bl true):=by
 have h1:=zSX w hw
 have h2:IntKind.u64.wrap (BitVec.ofInt IntKind.u64.bits (w:Int) &&& BitVec.ofInt IntKind.u64.bits 1).toNat=1:=by rw[h1];omega
 have ha:=zVh size now other beg h hw
 refine zCq func131 rfl ntmps131 results131 rfl ?_
 intro wb St0
 exact yM
theorem zWa(size:Int)(now other:List Nat)(beg:List Bool){a:Nat}(h:a<now.length)(hn:now.length<=1048576)(hb:beg[a]?=some true): zAp prog 131 [.ptr 0 0,.d (w64 (2*a))] (HO size now other beg) (bl true):=by
 have ha:=zYM size now other beg h hn hb
 refine zCq func131 rfl ntmps131 results131 rfl ?_
 intro wb St0
 exact yM
theorem zWF(size:Int)(now other:List Nat)(beg:List Bool){w:Nat}(h:w%2=1)(hw:w<18446744073709551616): zAp prog 53 [.ptr 0 0,.d (w64 w)] (HO size now other beg) (.tup [i64 0,i64 0,i64 0,bl false]):=by
 have ha:=zVh size now other beg h hw
 refine zJL func53 rfl ntmps53 results53 rfl ?_
 intro wb St0
 exact yK
theorem zKi(size:Int)(now other:List Nat)(beg:List Bool){a:Nat}{o:Thing}(h:now[a]?=some (zDM o))(ho:HeadOk o)(hn:now.length<=1048576)(hb:beg[a]?=some true): zAp prog 53 [.ptr 0 0,.d (w64 (2*a))] (HO size now other beg) (.tup [i64 o.kind,i64 o.tag,i64 (if o.kind=4 then 0 else(o.size:Int)),bl true]):=by
 have hl:=(qAA.1 h).1
 have ha:=zYM size now other beg hl hn hb
 have ht:=zPb o ho
 refine zJL func53 rfl ntmps53 results53 rfl ?_
 intro wb St0
 by_cases hk:o.kind=4
 all_goals
  repeat' first|apply en_n|apply zAE|apply zAA|apply zAB|apply w0|(refine zAX ?_)|(refine zBu ?_)|exact zA5|(refine RV_d rfl ?_ ?_)|(with_reducible exact rfl)|exact qcA [0,1,2,3] [] zHZ (ha)|exact ycA zFb ht|(apply zBQ;exact rfl;exact rfl;exact rfl;(with_reducible exact zBk);omega;(rw[zAq];omega))|(apply zCT;exact rfl;(with_reducible exact zBj);exact rfl;(show (w64s now)[Int.toNat _]?=some (w64 (zDM o));rw[qAn,w64s,qAH,h];rfl);exact rfl)|refine ayA rfl ?_|refine ayQ rfl ?_|apply ay (hd:=rfl)|refine zAJ rfl ?_|refine zAI rfl ?_|apply zAP|apply zAM
 all_goals first|rfl|skip
 ·rw[if_pos hk]
 ·rw[if_neg hk]
