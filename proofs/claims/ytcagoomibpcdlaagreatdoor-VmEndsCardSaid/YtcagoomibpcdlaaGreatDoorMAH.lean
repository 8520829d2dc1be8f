/- Parts of the proof. -/
import Derived.Test.YtcagoomibpcdlaaGreatDoorMAG
set_option maxHeartbeats 16000000
namespace Go.Proofs.YtcagoomibpcdlaaGreatDoor
open _root_.Go.Proofs.Tryz
open Go.Sx Go.Vm
theorem W_Wn(n:Int): W n=Wn n:=rfl
theorem zXN(all:List Thing)(ly:List Nat)(n:Int): D.val (.int .u64 (IntKind.u64.wrap (BitVec.ofInt IntKind.u64.bits (IntKind.u64.wrap (IntKind.u64.wrap (W n)*2 ^ min (1:Int).toNat IntKind.u64.bits)) ||| BitVec.ofInt IntKind.u64.bits 1).toNat))=w64 (wdN all ly (numR n)):=by
 refine zJI ?_
 have e1:IntKind.u64.wrap (IntKind.u64.wrap (W n)*2 ^ min (1:Int).toNat IntKind.u64.bits)=((((Wn n)%18446744073709551616*2)%18446744073709551616).toNat:Int):=by
  rw[zDm,zDm,W_Wn,show (2:Int) ^ min (1:Int).toNat IntKind.u64.bits=2 by decide];omega
 rw[e1]
 exact(or64 (b:=1) (by omega) (by decide)).trans (zUX all ly n)
theorem zP2(a:Nat)(h:a<18446744073709551616): IntKind.u64.wrap (BitVec.ofInt IntKind.u64.bits (a:Int) &&& BitVec.ofInt IntKind.u64.bits 1).toNat=((a%2:Nat):Int):=by
 exact(zYF (b:=1) h (by decide)).trans (by rw[zbB])
theorem zVx(a:Nat)(h:a<18446744073709551616): IntKind.u64.wrap (BitVec.ofInt IntKind.u64.bits (a:Int) &&& BitVec.ofInt IntKind.u64.bits 7).toNat=((a%8:Nat):Int):=by
 exact(zYF (b:=7) h (by decide)).trans (by rw[zbA])
theorem zSd(a:Nat)(h:a<18446744073709551616): IntKind.u64.wrap (BitVec.ofInt IntKind.u64.bits (a:Int) &&& BitVec.ofInt IntKind.u64.bits 8191).toNat=((a%8192:Nat):Int):=by
 exact(zYF (b:=8191) h (by decide)).trans (by rw[zZ1])
theorem zZB(a:Nat): (a:Int).fdiv (2 ^ min (1:Int).toNat IntKind.u64.bits)=((a / 2:Nat):Int):=by
 rw[show (2:Int) ^ min (1:Int).toNat IntKind.u64.bits=2 by decide,qBc _ (by decide)];omega
theorem zWx(a:Nat): (a:Int).fdiv (2 ^ min (3:Int).toNat IntKind.u64.bits)=((a / 8:Nat):Int):=by
 rw[show (2:Int) ^ min (3:Int).toNat IntKind.u64.bits=8 by decide,qBc _ (by decide)];omega
theorem zVg(a:Nat): (a:Int).fdiv (2 ^ min (16:Int).toNat IntKind.u64.bits)=((a / 65536:Nat):Int):=by
 rw[show (2:Int) ^ min (16:Int).toNat IntKind.u64.bits=65536 by decide,qBc _ (by decide)];omega
attribute [local irreducible] zAO Program.underlying Ylds zBE alex zB0 zBk awp zAg zB9 zB8 zAU zA6 zBn zBC zBq zBz zB7 zBm zBc
theorem zPO(all:List Thing)(ly:List Nat)(n:Int): zAg prog 20 [i64 n] (w64 (wdN all ly (numR n))):=by
 have hW:=zEt n
 refine zAr func20 rfl ntmps20 results20 rfl ?_
 intro wb St0
 repeat' first|apply en_n|apply zAG|apply zAA|apply zAD|apply w0|(apply zEA;exact rfl;(first|with_reducible exact si64|with_reducible exact su64|with_reducible exact zII|with_reducible exact sint|with_reducible exact sbk);(first|with_reducible exact ui64|with_reducible exact uu64|with_reducible exact zIl|with_reducible exact uint|with_reducible exact ubk))|(apply zM2;exact rfl;exact rfl;exact(by decide))|exact Y_or rfl rfl|(refine zAd zEy hW (CoLA rfl))|apply ay (hd:=rfl)|exact zAF rfl|exact zAB rfl|apply zAQ|apply zAT|refine res1 rfl ?_
 all_goals exact zXN all ly n
theorem zGn(all:List Thing)(ly:List Nat){v:Int}(h:Wn v=v): zAg prog 54 [w64 (wdN all ly (.n v))] (.tup [i64 v,bl true]):=by
 obtain⟨o1,o2⟩:=zOA all ly v
 have h1:=zP2 _ o2
 have hv:=zP6 all ly h
 generalize wdN all ly (.n v)=w at *
 have h2:¬IntKind.u64.wrap (BitVec.ofInt IntKind.u64.bits (w:Int) &&& BitVec.ofInt IntKind.u64.bits 1).toNat=0:=by rw[h1];omega
 refine zAr func54 rfl ntmps54 results54 rfl ?_
 intro wb St0
 repeat' first|apply en_n|apply zAG|apply zAA|apply zAD|apply w0|(apply zEA;exact rfl;(first|with_reducible exact si64|with_reducible exact su64|with_reducible exact zII|with_reducible exact sint|with_reducible exact sbk);(first|with_reducible exact ui64|with_reducible exact uu64|with_reducible exact zIl|with_reducible exact uint|with_reducible exact ubk))|(apply zLj;exact rfl;exact rfl;exact(by decide))|exact zM5 rfl rfl|(apply zAn;exact rfl;exact rfl;assumption)|apply ay (hd:=rfl)|exact zAF rfl|exact zAB rfl|refine zAJ rfl ?_|apply zAR|apply zAQ|apply zAT|(apply res2;exact rfl;exact rfl)
 ·rw[zHE,show (2:Int) ^ min (1:Int).toNat IntKind.i64.bits=2 by decide,hv]
 ·rfl
theorem zHd(all:List Thing)(ly:List Nat){i:Nat}(h:wdN all ly (.b i)<18446744073709551616): zAg prog 54 [w64 (wdN all ly (.b i))] (.tup [i64 0,bl false]):=by
 have o1:=zWL all ly i
 have h1:=zP2 _ h
 generalize wdN all ly (.b i)=w at *
 have h2:IntKind.u64.wrap (BitVec.ofInt IntKind.u64.bits (w:Int) &&& BitVec.ofInt IntKind.u64.bits 1).toNat=0:=by rw[h1];omega
 refine zAr func54 rfl ntmps54 results54 rfl ?_
 intro wb St0
 repeat' first|apply en_n|apply zAG|apply zAA|apply zAD|apply w0|exact zM5 rfl rfl|(apply zAi;exact rfl;exact rfl;assumption)|apply ay (hd:=rfl)|exact zAF rfl|exact zAB rfl|refine zAI rfl ?_|apply zAQ|apply en_r|apply zAT|(apply res2;exact rfl;exact rfl)
 all_goals rfl
theorem zKM(n:Nat)(h:n<=2000000): zAg prog 77 [i64 (n:Int)] (i64 ((n+1:Nat):Int)):=by
 refine zAr func77 rfl ntmps77 results77 rfl ?_
 intro wb St0
 repeat' first|apply en_n|apply zAG|apply zAA|apply zAD|apply w0|apply ay (hd:=rfl)|exact zAF rfl|exact zAB rfl|refine zBG rfl rfl ?_|apply zAQ|apply zAT|refine res1 rfl ?_
 all_goals first|omega|rfl
theorem zHc(s:List UInt8)(h:s.length<=1000000): zAg prog 126 [str s] (i64 (((s.length+7) / 8+1:Nat):Int)):=by
 have hN:=zKM ((s.length+7) / 8) (by omega)
 refine zAr func126 rfl ntmps126 results126 rfl ?_
 intro wb St0
 repeat' first|apply en_n|apply zAG|apply zAA|apply zAD|apply w0|(apply zEY;exact rfl;with_reducible exact ustr)|(apply zVO;exact rfl;exact rfl;exact(by decide))|(refine zAd zEi hN (zAY (by refine congrArg SV.d ?_;refine(congrArg (fun x=>D.val (.int .i64 x)) ?_);rw[zEs,Int.tdiv_eq_ediv_of_nonneg (by omega)];omega) zAM))|apply ay (hd:=rfl)|exact zAF rfl|exact zAB rfl|refine zBG rfl rfl ?_|refine zC2 rfl rfl ?_|apply zAQ|apply zAT|refine res1 rfl ?_
 all_goals first|omega|rfl
theorem zNM(o:Thing)(h:HeadOk o): zAg prog 99 [w64 (zCu o)] (.tup [i64 o.kind,i64 o.tag,i64 (o.size:Int)]):=by
 obtain⟨t1,t2,t3,t4⟩:=zSB h
 have e1:=zVx _ t4
 have e2:=zVg (zCu o)
 have e3:=zWx (zCu o)
 have e4:=zSd (zCu o / 8) (by omega)
 refine zDU func99 rfl ntmps99 results99 rfl ?_
 intro wb St0
 repeat' first|apply en_n|apply zAG|apply zAA|apply zAD|apply w0|(refine zBQ ?_)|(refine zBp ?_)|exact zCh|(refine RV_d rfl ?_ ?_)|(apply zEA;exact rfl;(first|with_reducible exact si64|with_reducible exact su64|with_reducible exact zII|with_reducible exact sint|with_reducible exact sbk);(first|with_reducible exact ui64|with_reducible exact uu64|with_reducible exact zIl|with_reducible exact uint|with_reducible exact ubk))|(apply zLj;exact rfl;exact rfl;exact(by decide))|exact zM5 rfl rfl|apply ay (hd:=rfl)|exact zAF rfl|exact zAB rfl|apply zAQ
 all_goals first|rfl|skip
 ·rw[e3,e4,zHE];refine congrArg (fun x=>D.val (.int .i64 x)) ?_;omega
 ·have:=h.tag;rw[e2,zHE];refine congrArg (fun x=>D.val (.int .i64 x)) ?_;omega
 ·have:=h.kind;rw[e1,zHE];refine congrArg (fun x=>D.val (.int .i64 x)) ?_;omega
theorem zSC(o:Thing)(h:HeadOk o): zAg prog 133 [i64 o.kind,i64 o.tag,i64 (o.size:Int)] (w64 (zCu o)):=by
 have hk:=h.kind
 have htg:=h.tag
 have hsz:=h.size
 have f1:IntKind.u64.wrap (IntKind.u64.wrap o.tag*2 ^ min (16:Int).toNat IntKind.u64.bits)=((o.tag.toNat*65536:Nat):Int):=by
  rw[show (2:Int) ^ min (16:Int).toNat IntKind.u64.bits=65536 by decide,zDm,zDm];omega
 have f2:IntKind.u64.wrap (IntKind.u64.wrap (o.size:Int)*2 ^ min (3:Int).toNat IntKind.u64.bits)=((o.size*8:Nat):Int):=by
  rw[show (2:Int) ^ min (3:Int).toNat IntKind.u64.bits=8 by decide,zDm,zDm];omega
 have f3:IntKind.u64.wrap o.kind=((o.kind.toNat:Nat):Int):=by rw[zDm];omega
 have f4:=or64 (a:=o.tag.toNat*65536) (b:=o.size*8) (by omega) (by omega)
 have hor:o.tag.toNat*65536 ||| o.size*8<18446744073709551616:=Nat.or_lt_two_pow (n:=64) (by omega) (by omega)
 have f5:=or64 (a:=o.tag.toNat*65536 ||| o.size*8) (b:=o.kind.toNat) hor (by omega)
 have f6:=zXj h
 refine zAr func133 rfl ntmps133 results133 rfl ?_
 intro wb St0
 repeat' first|apply en_n|apply zAG|apply zAA|apply zAD|apply w0|(apply zEA;exact rfl;(first|with_reducible exact si64|with_reducible exact su64|with_reducible exact zII|with_reducible exact sint|with_reducible exact sbk);(first|with_reducible exact ui64|with_reducible exact uu64|with_reducible exact zIl|with_reducible exact uint|with_reducible exact ubk))|(apply zM2;exact rfl;exact rfl;exact(by decide))|exact Y_or rfl rfl|apply ay (hd:=rfl)|exact zAF rfl|exact zAB rfl|apply zAQ|apply zAT|refine res1 rfl ?_
 all_goals rw[f1,f2,f4,f3,f5,f6]
end Go.Proofs.YtcagoomibpcdlaaGreatDoor
