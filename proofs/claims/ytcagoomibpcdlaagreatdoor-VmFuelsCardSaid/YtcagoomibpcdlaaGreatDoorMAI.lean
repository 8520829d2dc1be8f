/- Texts of this claim, merged: VmI. -/
import Derived.Test.YtcagoomibpcdlaaGreatDoorMAH
namespace Go.Proofs.YtcagoomibpcdlaaGreatDoor
open Go.Sx Go.Vm
def w64s(l:List Nat): List D:=l.map w64
def bls(l:List Bool): List D:=l.map bl
theorem zAk(l:List Nat): (w64s l).length=l.length:=List.length_map _
theorem zFv(l:List Bool): (bls l).length=l.length:=List.length_map _
abbrev HO(size:Int)(now other:List Nat)(beg:List Bool): List Ob :=
 [.box [.buf 1 now.length,.buf 2 other.length,.d (i64 size),.buf 3 beg.length],.buf true 58 1 (w64s now),.buf true 58 1 (w64s other),.buf true 4 1 (bls beg)]
attribute [local irreducible] zAQ Program.underlying Ylds zBD alex zCA zBi awp zAp zCI zCH zAW zA5 zBp zBF zBv zB9 zCE zBn zBm
theorem zJc(size:Int)(now other:List Nat)(beg:List Bool)(h:0≤size∧size≤1048576∧now.length≤1048576): zA5 Tryz.prog 128 [.ptr 0 0] (HO size now other beg) (i64 (size-(now.length:Int))):=by
 refine zCW Tryz.func128 rfl Tryz.ntmps128 Tryz.results128 rfl ?_
 intro wb St0
 repeat' first|apply en_n|apply zAK|apply zAA|apply zAF|apply w0|exact zAN rfl|apply ay (hd:=rfl)|exact zAD rfl|(apply zDX;exact rfl;exact rfl)|(apply zA4;exact rfl;(with_reducible exact zCj))|exact zAH rfl|(apply zAC;exact rfl;(with_reducible first|exact zCo|exact zJm))|(apply zAG;exact rfl;(with_reducible first|exact zBC|exact zAS);exact rfl;exact rfl)|apply zAT|refine zAr (by kernel_rfl) (by kernel_rfl) ?_|apply zAY|(apply res1;exact rfl)
 all_goals first|omega|rfl
theorem zRL(size:Int)(now other:List Nat)(beg:List Bool){w:Nat}(h:w%2=1)(hw:w<18446744073709551616): zA5 Tryz.prog 98 [.ptr 0 0,.d (w64 w)] (HO size now other beg) (.tup [i64 0,bl false]):=by
 have h1:=zOn w hw
 have h2:IntKind.u64.wrap (BitVec.ofInt IntKind.u64.bits (w:Int) &&& BitVec.ofInt IntKind.u64.bits 1).toNat=1:=by rw[h1];omega
 refine zCW Tryz.func98 rfl Tryz.ntmps98 Tryz.results98 rfl ?_
 intro wb St0
 repeat' first|apply en_n|apply zAK|apply zAA|apply zAF|apply w0|(apply k0u (hd:=rfl);exact rfl;exact rfl)|exact zL4 rfl rfl|(apply zAn;exact rfl;exact rfl;assumption)|apply ay (hd:=rfl)|exact zAJ rfl|exact zAD rfl|exact zAj rfl rfl|(apply zAL;exact rfl)|apply zAT|apply en_r|apply zAY|(apply res2;exact rfl;exact rfl)
 all_goals rfl
theorem zTq(size:Int)(now other:List Nat)(beg:List Bool){a:Nat}(h:a<now.length)(hn:now.length≤1048576)(hb:beg[a]?=some true): zA5 Tryz.prog 98 [.ptr 0 0,.d (w64 (2*a))] (HO size now other beg) (.tup [i64 (a:Int),bl true]):=by
 have h1:=zOn (2*a) (by omega)
 have h2:¬IntKind.u64.wrap (BitVec.ofInt IntKind.u64.bits ((2*a:Nat):Int) &&& BitVec.ofInt IntKind.u64.bits 1).toNat=1:=by rw[h1];omega
 have h3:(((2*a:Nat):Int)).fdiv (2 ^ min (1:Int).toNat IntKind.u64.bits)=(a:Int):=by rw[zXe];omega
 have h4:¬(((2*a:Nat):Int)).fdiv (2 ^ min (1:Int).toNat IntKind.u64.bits)≥IntKind.u64.wrap (now.length:Int):=by rw[h3,zDZ];omega
 have hbl:=(List.getElem?_eq_some_iff.1 hb).1
 refine zCW Tryz.func98 rfl Tryz.ntmps98 Tryz.results98 rfl ?_
 intro wb St0
 repeat' first|apply en_n|apply zAK|apply zAA|apply zAF|apply w0|exact zAN rfl|(apply zD5;exact rfl;(first|with_reducible exact si64|with_reducible exact su64|with_reducible exact zHl|with_reducible exact sint|with_reducible exact sbk);(first|with_reducible exact ui64|with_reducible exact uu64|with_reducible exact zIC|with_reducible exact uint|with_reducible exact ubk))|(apply zKs;exact rfl;exact rfl;exact(by decide))|exact zL4 rfl rfl|(apply zAs;exact rfl;exact rfl;assumption)|(apply zH8;exact rfl;exact rfl;assumption)|(apply zBY;exact rfl;exact rfl;exact rfl;(with_reducible exact zGV);(rw[h3];omega);(rw[zFv];omega))|(apply zCg;exact rfl;(with_reducible exact zAg);exact rfl;(show (bls beg)[Int.toNat _]?=some (bl true);rw[h3,Int.toNat_natCast,bls,List.getElem?_map,hb];rfl);exact rfl)|apply ay (hd:=rfl)|exact zAJ rfl|exact zAD rfl|exact zBd rfl|exact zAc rfl rfl|(apply zA4;exact rfl;(with_reducible exact zCj))|exact zAH rfl|(apply zAC;exact rfl;(with_reducible first|exact zCo|exact zGS))|(apply zAG;exact rfl;(with_reducible first|exact zBC|exact zII);exact rfl;exact rfl)|(apply w1;exact rfl;exact rfl)|(apply zAM;exact rfl)|apply zAU|apply zAT|apply zAY|(apply res2;exact rfl;exact rfl)
 ·rw[h3,zGn];refine congrArg (fun x=>D.val (.int .i64 x)) ?_;omega
 ·rfl
theorem zPV(size:Int)(now other:List Nat)(beg:List Bool){w:Nat}(h:w%2=1)(hw:w<18446744073709551616): zA5 Tryz.prog 131 [.ptr 0 0,.d (w64 w)] (HO size now other beg) (bl true):=by
 have h1:=zOn w hw
 have h2:IntKind.u64.wrap (BitVec.ofInt IntKind.u64.bits (w:Int) &&& BitVec.ofInt IntKind.u64.bits 1).toNat=1:=by rw[h1];omega
 have ha:=zRL size now other beg h hw
 refine zCW Tryz.func131 rfl Tryz.ntmps131 Tryz.results131 rfl ?_
 intro wb St0
 repeat' first|apply en_n|apply zAK|apply zAA|apply zAF|apply w0|exact zL4 rfl rfl|(apply zAn;exact rfl;exact rfl;assumption)|(refine zAZ [0,1,2,3] [] rfl rfl zFs (ha) rfl ?_ rfl (by decide) rfl rfl rfl rfl;(repeat (refine zAB rfl ?_));exact zAE)|apply ay (hd:=rfl)|exact zAJ rfl|exact zAD rfl|exact zAc rfl rfl|exact zAm rfl rfl|exact zAH rfl|(apply w1;exact rfl;exact rfl)|apply zAT|apply zAY|(apply res1;exact rfl)
 all_goals rfl
theorem zSF(size:Int)(now other:List Nat)(beg:List Bool){a:Nat}(h:a<now.length)(hn:now.length≤1048576)(hb:beg[a]?=some true): zA5 Tryz.prog 131 [.ptr 0 0,.d (w64 (2*a))] (HO size now other beg) (bl true):=by
 have ha:=zTq size now other beg h hn hb
 refine zCW Tryz.func131 rfl Tryz.ntmps131 Tryz.results131 rfl ?_
 intro wb St0
 repeat' first|apply en_n|apply zAK|apply zAA|apply zAF|apply w0|(apply k0u (hd:=rfl);exact rfl;exact rfl)|(refine zAZ [0,1,2,3] [] rfl rfl zFs (ha) rfl ?_ rfl (by decide) rfl rfl rfl rfl;(repeat (refine zAB rfl ?_));exact zAE)|apply ay (hd:=rfl)|exact zAJ rfl|exact zAD rfl|exact zAj rfl rfl|exact zAm rfl rfl|exact zAH rfl|apply zAT|apply zAY|(apply res1;exact rfl)
 all_goals rfl
theorem zRt(size:Int)(now other:List Nat)(beg:List Bool){w:Nat}(h:w%2=1)(hw:w<18446744073709551616): zA5 Tryz.prog 53 [.ptr 0 0,.d (w64 w)] (HO size now other beg) (.tup [i64 0,i64 0,i64 0,bl false]):=by
 have ha:=zRL size now other beg h hw
 refine zHP Tryz.func53 rfl Tryz.ntmps53 Tryz.results53 rfl ?_
 intro wb St0
 repeat' first|apply en_n|apply zAK|apply zAA|apply zAF|apply w0|(refine zBq ?_)|(refine zCJ ?_)|exact zC6|(refine RV_d rfl ?_ ?_)|(with_reducible exact rfl)|(refine zAZ [0,1,2,3] [] rfl rfl zFs (ha) rfl ?_ rfl (by decide) rfl rfl rfl rfl;(repeat (refine zAB rfl ?_));exact zAE)|apply ay (hd:=rfl)|exact zAJ rfl|exact zAD rfl|exact zBd rfl|exact zAm rfl rfl|exact zAH rfl|(apply zAL;exact rfl)|apply zAT|apply en_r
 all_goals rfl
theorem zIe(size:Int)(now other:List Nat)(beg:List Bool){a:Nat}{o:Thing}(h:now[a]?=some (zCm o))(ho:HeadOk o)(hn:now.length≤1048576)(hb:beg[a]?=some true): zA5 Tryz.prog 53 [.ptr 0 0,.d (w64 (2*a))] (HO size now other beg) (.tup [i64 o.kind,i64 o.tag,i64 (if o.kind=4 then 0 else(o.size:Int)),bl true]):=by
 have hl:=(List.getElem?_eq_some_iff.1 h).1
 have ha:=zTq size now other beg hl hn hb
 have ht:=zML o ho
 refine zHP Tryz.func53 rfl Tryz.ntmps53 Tryz.results53 rfl ?_
 intro wb St0
 by_cases hk:o.kind=4
 all_goals
  repeat' first|apply en_n|apply zAK|apply zAA|apply zAF|apply w0|(refine zBq ?_)|(refine zCJ ?_)|exact zC6|(refine RV_d rfl ?_ ?_)|(with_reducible exact rfl)|(apply zAn;exact rfl;exact rfl;first|assumption|omega)|(apply zAs;exact rfl;exact rfl;first|assumption|omega)|exact zAN rfl|(refine zAZ [0,1,2,3] [] rfl rfl zFs (ha) rfl ?_ rfl (by decide) rfl rfl rfl rfl;(repeat (refine zAB rfl ?_));exact zAE)|(refine zAh zEQ ht (zAa rfl zAR))|(apply zBY;exact rfl;exact rfl;exact rfl;(with_reducible exact zBS);omega;(rw[zAk];omega))|(apply zCg;exact rfl;(with_reducible exact zBQ);exact rfl;(show (w64s now)[Int.toNat _]?=some (w64 (zCm o));rw[Int.toNat_natCast,w64s,List.getElem?_map,h];rfl);exact rfl)|apply ay (hd:=rfl)|exact zAJ rfl|exact zAD rfl|exact zBd rfl|exact zAm rfl rfl|exact zAH rfl|(apply zAC;exact rfl;(with_reducible exact zCo))|(apply zAG;exact rfl;(with_reducible exact zBC);exact rfl;exact rfl)|(apply zAL;exact rfl)|(apply zAM;exact rfl)|apply zAU|apply zAT
 all_goals first|rfl|skip
 ·rw[if_pos hk]
 ·rw[if_neg hk]
end Go.Proofs.YtcagoomibpcdlaaGreatDoor
