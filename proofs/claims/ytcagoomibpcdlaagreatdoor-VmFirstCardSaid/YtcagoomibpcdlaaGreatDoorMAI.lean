/- Parts of the proof. -/
import Derived.Test.YtcagoomibpcdlaaGreatDoorMAH
set_option maxHeartbeats 16000000
namespace Go.Proofs.YtcagoomibpcdlaaGreatDoor
open _root_.Go.Proofs.Tryz
open Go.Sx Go.Vm
theorem W_Wn(n:Int): W n=Wn n:=rfl
theorem zWg(all:List Thing)(ly:List Nat)(n:Int): D.val (.int .u64 (IntKind.u64.wrap (BitVec.ofInt IntKind.u64.bits (IntKind.u64.wrap (IntKind.u64.wrap (W n)*2 ^ min (1:Int).toNat IntKind.u64.bits)) ||| BitVec.ofInt IntKind.u64.bits 1).toNat))=w64 (wdN all ly (numR n)):=by
 refine zI2 ?_
 have e1:IntKind.u64.wrap (IntKind.u64.wrap (W n)*2 ^ min (1:Int).toNat IntKind.u64.bits)=((((Wn n)%18446744073709551616*2)%18446744073709551616).toNat:Int):=by
  rw[zDl,zDl,W_Wn,show (2:Int) ^ min (1:Int).toNat IntKind.u64.bits=2 by decide];omega
 rw[e1]
 exact(or64 (b:=1) (by omega) (by decide)).trans (zTm all ly n)
theorem zPP(a:Nat)(h:a<18446744073709551616): IntKind.u64.wrap (BitVec.ofInt IntKind.u64.bits (a:Int) &&& BitVec.ofInt IntKind.u64.bits 1).toNat=((a%2:Nat):Int):=by
 exact(zXU (b:=1) h (by decide)).trans (by rw[zaE])
theorem zVG(a:Nat)(h:a<18446744073709551616): IntKind.u64.wrap (BitVec.ofInt IntKind.u64.bits (a:Int) &&& BitVec.ofInt IntKind.u64.bits 7).toNat=((a%8:Nat):Int):=by
 exact(zXU (b:=7) h (by decide)).trans (by rw[zaD])
theorem zRp(a:Nat)(h:a<18446744073709551616): IntKind.u64.wrap (BitVec.ofInt IntKind.u64.bits (a:Int) &&& BitVec.ofInt IntKind.u64.bits 8191).toNat=((a%8192:Nat):Int):=by
 exact(zXU (b:=8191) h (by decide)).trans (by rw[zZC])
theorem zYT(a:Nat): (a:Int).fdiv (2 ^ min (1:Int).toNat IntKind.u64.bits)=((a / 2:Nat):Int):=by
 rw[show (2:Int) ^ min (1:Int).toNat IntKind.u64.bits=2 by decide,qBY _ (by decide)];omega
theorem zWG(a:Nat): (a:Int).fdiv (2 ^ min (3:Int).toNat IntKind.u64.bits)=((a / 8:Nat):Int):=by
 rw[show (2:Int) ^ min (3:Int).toNat IntKind.u64.bits=8 by decide,qBY _ (by decide)];omega
theorem zUy(a:Nat): (a:Int).fdiv (2 ^ min (16:Int).toNat IntKind.u64.bits)=((a / 65536:Nat):Int):=by
 rw[show (2:Int) ^ min (16:Int).toNat IntKind.u64.bits=65536 by decide,qBY _ (by decide)];omega
attribute [local irreducible] zAN Program.underlying Ylds zA9 alex zB3 zBf awp zAi zCC zCB zAU zAz zBj zBB zBr zB2 zB8 zBi zBd
theorem zOq(all:List Thing)(ly:List Nat)(n:Int): zAi prog 20 [i64 n] (w64 (wdN all ly (numR n))):=by
 have hW:=zEm n
 refine zAs func20 rfl ntmps20 results20 rfl ?_
 intro wb St0
 repeat' first|apply en_n|apply zAH|apply zAA|apply zAD|apply w0|(apply zD6;exact rfl;(first|with_reducible exact si64|with_reducible exact su64|with_reducible exact zH2|with_reducible exact sint|with_reducible exact sbk);(first|with_reducible exact ui64|with_reducible exact uu64|with_reducible exact zIT|with_reducible exact uint|with_reducible exact ubk))|(apply zMU;exact rfl;exact rfl;exact(by decide))|exact Y_or rfl rfl|(refine zAb zEr hW (zAY rfl zAM))|apply ay (hd:=rfl)|exact zAF rfl|exact zAB rfl|apply zAQ|apply zAR|refine res1 rfl ?_
 all_goals exact zWg all ly n
theorem zGe(all:List Thing)(ly:List Nat){v:Int}(h:Wn v=v): zAi prog 54 [w64 (wdN all ly (.n v))] (.tup [i64 v,bl true]):=by
 obtain⟨o1,o2⟩:=zNc all ly v
 have h1:=zPP _ o2
 have hv:=zPU all ly h
 generalize wdN all ly (.n v)=w at *
 have h2:¬IntKind.u64.wrap (BitVec.ofInt IntKind.u64.bits (w:Int) &&& BitVec.ofInt IntKind.u64.bits 1).toNat=0:=by rw[h1];omega
 refine zAs func54 rfl ntmps54 results54 rfl ?_
 intro wb St0
 repeat' first|apply en_n|apply zAH|apply zAA|apply zAD|apply w0|(apply zD6;exact rfl;(first|with_reducible exact si64|with_reducible exact su64|with_reducible exact zH2|with_reducible exact sint|with_reducible exact sbk);(first|with_reducible exact ui64|with_reducible exact uu64|with_reducible exact zIT|with_reducible exact uint|with_reducible exact ubk))|(apply zLE;exact rfl;exact rfl;exact(by decide))|exact zMW rfl rfl|(apply zAm;exact rfl;exact rfl;assumption)|apply ay (hd:=rfl)|exact zAF rfl|exact zAB rfl|refine zAJ rfl ?_|apply zAS|apply zAQ|apply zAR|(apply res2;exact rfl;exact rfl)
 ·rw[zG5,show (2:Int) ^ min (1:Int).toNat IntKind.i64.bits=2 by decide,hv]
 ·rfl
theorem zHS(all:List Thing)(ly:List Nat){i:Nat}(h:wdN all ly (.b i)<18446744073709551616): zAi prog 54 [w64 (wdN all ly (.b i))] (.tup [i64 0,bl false]):=by
 have o1:=zVe all ly i
 have h1:=zPP _ h
 generalize wdN all ly (.b i)=w at *
 have h2:IntKind.u64.wrap (BitVec.ofInt IntKind.u64.bits (w:Int) &&& BitVec.ofInt IntKind.u64.bits 1).toNat=0:=by rw[h1];omega
 refine zAs func54 rfl ntmps54 results54 rfl ?_
 intro wb St0
 repeat' first|apply en_n|apply zAH|apply zAA|apply zAD|apply w0|exact zMW rfl rfl|(apply zAk;exact rfl;exact rfl;assumption)|apply ay (hd:=rfl)|exact zAF rfl|exact zAB rfl|refine zAI rfl ?_|apply zAQ|apply en_r|apply zAR|(apply res2;exact rfl;exact rfl)
 all_goals rfl
theorem zJu(n:Nat)(h:n<=2000000): zAi prog 77 [i64 (n:Int)] (i64 ((n+1:Nat):Int)):=by
 refine zAs func77 rfl ntmps77 results77 rfl ?_
 intro wb St0
 repeat' first|apply en_n|apply zAH|apply zAA|apply zAD|apply w0|apply ay (hd:=rfl)|exact zAF rfl|exact zAB rfl|refine zBE rfl rfl ?_|apply zAQ|apply zAR|refine res1 rfl ?_
 all_goals first|omega|rfl
theorem zHR(s:List UInt8)(h:s.length<=1000000): zAi prog 126 [str s] (i64 (((s.length+7) / 8+1:Nat):Int)):=by
 have hN:=zJu ((s.length+7) / 8) (by omega)
 refine zAs func126 rfl ntmps126 results126 rfl ?_
 intro wb St0
 repeat' first|apply en_n|apply zAH|apply zAA|apply zAD|apply w0|(apply zEh;exact rfl;with_reducible exact ustr)|(apply zR9;exact rfl;exact rfl;exact(by decide))|(refine zAb zEZ hN (zAY (by refine congrArg SV.d ?_;refine(congrArg (fun x=>D.val (.int .i64 x)) ?_);rw[zEl,Int.tdiv_eq_ediv_of_nonneg (by omega)];omega) zAM))|apply ay (hd:=rfl)|exact zAF rfl|exact zAB rfl|refine zBE rfl rfl ?_|refine zDb rfl rfl ?_|apply zAQ|apply zAR|refine res1 rfl ?_
 all_goals first|omega|rfl
theorem zMn(o:Thing)(h:HeadOk o): zAi prog 99 [w64 (zCt o)] (.tup [i64 o.kind,i64 o.tag,i64 (o.size:Int)]):=by
 obtain⟨t1,t2,t3,t4⟩:=zRP h
 have e1:=zVG _ t4
 have e2:=zUy (zCt o)
 have e3:=zWG (zCt o)
 have e4:=zRp (zCt o / 8) (by omega)
 refine zED func99 rfl ntmps99 results99 rfl ?_
 intro wb St0
 repeat' first|apply en_n|apply zAH|apply zAA|apply zAD|apply w0|(refine zBu ?_)|(refine zCJ ?_)|exact zDC|(refine RV_d rfl ?_ ?_)|(apply zD6;exact rfl;(first|with_reducible exact si64|with_reducible exact su64|with_reducible exact zH2|with_reducible exact sint|with_reducible exact sbk);(first|with_reducible exact ui64|with_reducible exact uu64|with_reducible exact zIT|with_reducible exact uint|with_reducible exact ubk))|(apply zLE;exact rfl;exact rfl;exact(by decide))|exact zMW rfl rfl|apply ay (hd:=rfl)|exact zAF rfl|exact zAB rfl|apply zAQ
 all_goals first|rfl|skip
 ·rw[e3,e4,zG5];refine congrArg (fun x=>D.val (.int .i64 x)) ?_;omega
 ·have:=h.tag;rw[e2,zG5];refine congrArg (fun x=>D.val (.int .i64 x)) ?_;omega
 ·have:=h.kind;rw[e1,zG5];refine congrArg (fun x=>D.val (.int .i64 x)) ?_;omega
theorem zRQ(o:Thing)(h:HeadOk o): zAi prog 133 [i64 o.kind,i64 o.tag,i64 (o.size:Int)] (w64 (zCt o)):=by
 have hk:=h.kind
 have htg:=h.tag
 have hsz:=h.size
 have f1:IntKind.u64.wrap (IntKind.u64.wrap o.tag*2 ^ min (16:Int).toNat IntKind.u64.bits)=((o.tag.toNat*65536:Nat):Int):=by
  rw[show (2:Int) ^ min (16:Int).toNat IntKind.u64.bits=65536 by decide,zDl,zDl];omega
 have f2:IntKind.u64.wrap (IntKind.u64.wrap (o.size:Int)*2 ^ min (3:Int).toNat IntKind.u64.bits)=((o.size*8:Nat):Int):=by
  rw[show (2:Int) ^ min (3:Int).toNat IntKind.u64.bits=8 by decide,zDl,zDl];omega
 have f3:IntKind.u64.wrap o.kind=((o.kind.toNat:Nat):Int):=by rw[zDl];omega
 have f4:=or64 (a:=o.tag.toNat*65536) (b:=o.size*8) (by omega) (by omega)
 have hor:o.tag.toNat*65536 ||| o.size*8<18446744073709551616:=Nat.or_lt_two_pow (n:=64) (by omega) (by omega)
 have f5:=or64 (a:=o.tag.toNat*65536 ||| o.size*8) (b:=o.kind.toNat) hor (by omega)
 have f6:=zW0 h
 refine zAs func133 rfl ntmps133 results133 rfl ?_
 intro wb St0
 repeat' first|apply en_n|apply zAH|apply zAA|apply zAD|apply w0|(apply zD6;exact rfl;(first|with_reducible exact si64|with_reducible exact su64|with_reducible exact zH2|with_reducible exact sint|with_reducible exact sbk);(first|with_reducible exact ui64|with_reducible exact uu64|with_reducible exact zIT|with_reducible exact uint|with_reducible exact ubk))|(apply zMU;exact rfl;exact rfl;exact(by decide))|exact Y_or rfl rfl|apply ay (hd:=rfl)|exact zAF rfl|exact zAB rfl|apply zAQ|apply zAR|refine res1 rfl ?_
 all_goals rw[f1,f2,f4,f3,f5,f6]
end Go.Proofs.YtcagoomibpcdlaaGreatDoor
