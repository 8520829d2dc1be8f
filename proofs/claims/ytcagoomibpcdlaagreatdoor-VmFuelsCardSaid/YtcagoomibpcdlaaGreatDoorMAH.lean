/- Texts of this claim, merged: VmG. -/
import Derived.Test.YtcagoomibpcdlaaGreatDoorMAF
import Derived.Test.YtcagoomibpcdlaaGreatDoorMAG
namespace Go.Proofs.YtcagoomibpcdlaaGreatDoor
open Go.Sx Go.Vm
theorem W_Wn(n:Int): W n=Wn n:=rfl
theorem zVo(all:List Thing)(ly:List Nat)(n:Int): D.val (.int .u64 (IntKind.u64.wrap (BitVec.ofInt IntKind.u64.bits (IntKind.u64.wrap (IntKind.u64.wrap (W n)*2 ^ min (1:Int).toNat IntKind.u64.bits)) ||| BitVec.ofInt IntKind.u64.bits 1).toNat))=w64 (wdN all ly (numR n)):=by
 refine zIj ?_
 have e1:IntKind.u64.wrap (IntKind.u64.wrap (W n)*2 ^ min (1:Int).toNat IntKind.u64.bits)=((((Wn n)%18446744073709551616*2)%18446744073709551616).toNat:Int):=by
  rw[zDZ,zDZ,W_Wn,show (2:Int) ^ min (1:Int).toNat IntKind.u64.bits=2 by decide];omega
 rw[e1]
 exact(or64 (b:=1) (by omega) (by decide)).trans (zS6 all ly n)
theorem zOn(a:Nat)(h:a<18446744073709551616): IntKind.u64.wrap (BitVec.ofInt IntKind.u64.bits (a:Int) &&& BitVec.ofInt IntKind.u64.bits 1).toNat=((a%2:Nat):Int):=by
 exact(zWc (b:=1) h (by decide)).trans (by rw[zZT])
theorem zUX(a:Nat)(h:a<18446744073709551616): IntKind.u64.wrap (BitVec.ofInt IntKind.u64.bits (a:Int) &&& BitVec.ofInt IntKind.u64.bits 7).toNat=((a%8:Nat):Int):=by
 exact(zWc (b:=7) h (by decide)).trans (by rw[zZS])
theorem zRC(a:Nat)(h:a<18446744073709551616): IntKind.u64.wrap (BitVec.ofInt IntKind.u64.bits (a:Int) &&& BitVec.ofInt IntKind.u64.bits 8191).toNat=((a%8192:Nat):Int):=by
 exact(zWc (b:=8191) h (by decide)).trans (by rw[zYM])
theorem zXe(a:Nat): (a:Int).fdiv (2 ^ min (1:Int).toNat IntKind.u64.bits)=((a / 2:Nat):Int):=by
 rw[show (2:Int) ^ min (1:Int).toNat IntKind.u64.bits=2 by decide,Int.fdiv_eq_ediv_of_nonneg _ (by decide)];omega
theorem zVS(a:Nat): (a:Int).fdiv (2 ^ min (3:Int).toNat IntKind.u64.bits)=((a / 8:Nat):Int):=by
 rw[show (2:Int) ^ min (3:Int).toNat IntKind.u64.bits=8 by decide,Int.fdiv_eq_ediv_of_nonneg _ (by decide)];omega
theorem zUG(a:Nat): (a:Int).fdiv (2 ^ min (16:Int).toNat IntKind.u64.bits)=((a / 65536:Nat):Int):=by
 rw[show (2:Int) ^ min (16:Int).toNat IntKind.u64.bits=65536 by decide,Int.fdiv_eq_ediv_of_nonneg _ (by decide)];omega
attribute [local irreducible] zAQ Program.underlying Ylds zBD alex zCA zBi awp zAp zCI zCH zAW zA5 zBp zBF zBv zB9 zCE zBn zBm
theorem zOF(all:List Thing)(ly:List Nat)(n:Int): zAp Tryz.prog 20 [i64 n] (w64 (wdN all ly (numR n))):=by
 have hW:=zEc n
 refine zA8 Tryz.func20 rfl Tryz.ntmps20 Tryz.results20 rfl ?_
 intro wb St0
 repeat' first|apply en_n|apply zAK|apply zAA|apply zAF|apply w0|(apply zD5;exact rfl;(first|with_reducible exact si64|with_reducible exact su64|with_reducible exact zHl|with_reducible exact sint|with_reducible exact sbk);(first|with_reducible exact ui64|with_reducible exact uu64|with_reducible exact zIC|with_reducible exact uint|with_reducible exact ubk))|(apply zL1;exact rfl;exact rfl;exact(by decide))|exact Y_or rfl rfl|(refine zAh zEg hW (zAa rfl zAR))|apply ay (hd:=rfl)|exact zAJ rfl|exact zAD rfl|apply zAT|apply zAY|(apply res1;exact rfl)
 all_goals exact zVo all ly n
theorem zGN(all:List Thing)(ly:List Nat){v:Int}(h:Wn v=v): zAp Tryz.prog 54 [w64 (wdN all ly (.n v))] (.tup [i64 v,bl true]):=by
 obtain⟨o1,o2⟩:=zM7 all ly v
 have h1:=zOn _ o2
 have hv:=zOt all ly h
 generalize wdN all ly (.n v)=w at *
 have h2:¬IntKind.u64.wrap (BitVec.ofInt IntKind.u64.bits (w:Int) &&& BitVec.ofInt IntKind.u64.bits 1).toNat=0:=by rw[h1];omega
 refine zA8 Tryz.func54 rfl Tryz.ntmps54 Tryz.results54 rfl ?_
 intro wb St0
 repeat' first|apply en_n|apply zAK|apply zAA|apply zAF|apply w0|(apply zD5;exact rfl;(first|with_reducible exact si64|with_reducible exact su64|with_reducible exact zHl|with_reducible exact sint|with_reducible exact sbk);(first|with_reducible exact ui64|with_reducible exact uu64|with_reducible exact zIC|with_reducible exact uint|with_reducible exact ubk))|(apply zKs;exact rfl;exact rfl;exact(by decide))|exact zL4 rfl rfl|(apply zAs;exact rfl;exact rfl;assumption)|apply ay (hd:=rfl)|exact zAJ rfl|exact zAD rfl|(apply zAM;exact rfl)|apply zAU|apply zAT|apply zAY|(apply res2;exact rfl;exact rfl)
 ·rw[zGn,show (2:Int) ^ min (1:Int).toNat IntKind.i64.bits=2 by decide,hv]
 ·rfl
theorem zHD(all:List Thing)(ly:List Nat){i:Nat}(h:wdN all ly (.b i)<18446744073709551616): zAp Tryz.prog 54 [w64 (wdN all ly (.b i))] (.tup [i64 0,bl false]):=by
 have o1:=zUq all ly i
 have h1:=zOn _ h
 generalize wdN all ly (.b i)=w at *
 have h2:IntKind.u64.wrap (BitVec.ofInt IntKind.u64.bits (w:Int) &&& BitVec.ofInt IntKind.u64.bits 1).toNat=0:=by rw[h1];omega
 refine zA8 Tryz.func54 rfl Tryz.ntmps54 Tryz.results54 rfl ?_
 intro wb St0
 repeat' first|apply en_n|apply zAK|apply zAA|apply zAF|apply w0|exact zL4 rfl rfl|(apply zAn;exact rfl;exact rfl;assumption)|apply ay (hd:=rfl)|exact zAJ rfl|exact zAD rfl|(apply zAL;exact rfl)|apply zAT|apply en_r|apply zAY|(apply res2;exact rfl;exact rfl)
 all_goals rfl
theorem zJb(n:Nat)(h:n≤2000000): zAp Tryz.prog 77 [i64 (n:Int)] (i64 ((n+1:Nat):Int)):=by
 refine zA8 Tryz.func77 rfl Tryz.ntmps77 Tryz.results77 rfl ?_
 intro wb St0
 repeat' first|apply en_n|apply zAK|apply zAA|apply zAF|apply w0|apply ay (hd:=rfl)|exact zAJ rfl|exact zAD rfl|(apply zBL;exact rfl;exact rfl)|apply zAT|apply zAY|(apply res1;exact rfl)
 all_goals first|omega|rfl
theorem zHC(s:List UInt8)(h:s.length≤1000000): zAp Tryz.prog 126 [str s] (i64 (((s.length+7) / 8+1:Nat):Int)):=by
 have hN:=zJb ((s.length+7) / 8) (by omega)
 refine zA8 Tryz.func126 rfl Tryz.ntmps126 Tryz.results126 rfl ?_
 intro wb St0
 repeat' first|apply en_n|apply zAK|apply zAA|apply zAF|apply w0|(apply zFx;exact rfl;with_reducible exact ustr)|(apply zTz;exact rfl;exact rfl;exact(by decide))|(refine zAh zER hN (zAa (by refine congrArg SV.d ?_;refine(congrArg (fun x=>D.val (.int .i64 x)) ?_);rw[zGQ,Int.tdiv_eq_ediv_of_nonneg (by omega)];omega) zAR))|apply ay (hd:=rfl)|exact zAJ rfl|exact zAD rfl|(apply zBL;exact rfl;exact rfl)|(apply zDX;exact rfl;exact rfl)|apply zAT|apply zAY|(apply res1;exact rfl)
 all_goals first|omega|rfl
theorem zML(o:Thing)(h:HeadOk o): zAp Tryz.prog 99 [w64 (zCm o)] (.tup [i64 o.kind,i64 o.tag,i64 (o.size:Int)]):=by
 obtain⟨t1,t2,t3,t4⟩:=zQo h
 have e1:=zUX _ t4
 have e2:=zUG (zCm o)
 have e3:=zVS (zCm o)
 have e4:=zRC (zCm o / 8) (by omega)
 refine zDy Tryz.func99 rfl Tryz.ntmps99 Tryz.results99 rfl ?_
 intro wb St0
 repeat' first|apply en_n|apply zAK|apply zAA|apply zAF|apply w0|(refine zBq ?_)|(refine zCJ ?_)|exact zC6|(refine RV_d rfl ?_ ?_)|(apply zD5;exact rfl;(first|with_reducible exact si64|with_reducible exact su64|with_reducible exact zHl|with_reducible exact sint|with_reducible exact sbk);(first|with_reducible exact ui64|with_reducible exact uu64|with_reducible exact zIC|with_reducible exact uint|with_reducible exact ubk))|(apply zKs;exact rfl;exact rfl;exact(by decide))|exact zL4 rfl rfl|apply ay (hd:=rfl)|exact zAJ rfl|exact zAD rfl|apply zAT
 all_goals first|rfl|skip
 ·rw[e3,e4,zGn];refine congrArg (fun x=>D.val (.int .i64 x)) ?_;omega
 ·have:=h.tag;rw[e2,zGn];refine congrArg (fun x=>D.val (.int .i64 x)) ?_;omega
 ·have:=h.kind;rw[e1,zGn];refine congrArg (fun x=>D.val (.int .i64 x)) ?_;omega
theorem zQp(o:Thing)(h:HeadOk o): zAp Tryz.prog 133 [i64 o.kind,i64 o.tag,i64 (o.size:Int)] (w64 (zCm o)):=by
 have hk:=h.kind
 have htg:=h.tag
 have hsz:=h.size
 have f1:IntKind.u64.wrap (IntKind.u64.wrap o.tag*2 ^ min (16:Int).toNat IntKind.u64.bits)=((o.tag.toNat*65536:Nat):Int):=by
  rw[show (2:Int) ^ min (16:Int).toNat IntKind.u64.bits=65536 by decide,zDZ,zDZ];omega
 have f2:IntKind.u64.wrap (IntKind.u64.wrap (o.size:Int)*2 ^ min (3:Int).toNat IntKind.u64.bits)=((o.size*8:Nat):Int):=by
  rw[show (2:Int) ^ min (3:Int).toNat IntKind.u64.bits=8 by decide,zDZ,zDZ];omega
 have f3:IntKind.u64.wrap o.kind=((o.kind.toNat:Nat):Int):=by rw[zDZ];omega
 have f4:=or64 (a:=o.tag.toNat*65536) (b:=o.size*8) (by omega) (by omega)
 have hor:o.tag.toNat*65536 ||| o.size*8<18446744073709551616:=Nat.or_lt_two_pow (n:=64) (by omega) (by omega)
 have f5:=or64 (a:=o.tag.toNat*65536 ||| o.size*8) (b:=o.kind.toNat) hor (by omega)
 have f6:=zV8 h
 refine zA8 Tryz.func133 rfl Tryz.ntmps133 Tryz.results133 rfl ?_
 intro wb St0
 repeat' first|apply en_n|apply zAK|apply zAA|apply zAF|apply w0|(apply zD5;exact rfl;(first|with_reducible exact si64|with_reducible exact su64|with_reducible exact zHl|with_reducible exact sint|with_reducible exact sbk);(first|with_reducible exact ui64|with_reducible exact uu64|with_reducible exact zIC|with_reducible exact uint|with_reducible exact ubk))|(apply zL1;exact rfl;exact rfl;exact(by decide))|exact Y_or rfl rfl|apply ay (hd:=rfl)|exact zAJ rfl|exact zAD rfl|apply zAT|apply zAY|(apply res1;exact rfl)
 all_goals rw[f1,f2,f4,f3,f5,f6]
end Go.Proofs.YtcagoomibpcdlaaGreatDoor
