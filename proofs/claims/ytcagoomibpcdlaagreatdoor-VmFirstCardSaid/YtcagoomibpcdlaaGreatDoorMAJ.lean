/- Parts of the proof. -/
import Derived.Test.YtcagoomibpcdlaaGreatDoorMAI
set_option maxHeartbeats 16000000
namespace Go.Proofs.YtcagoomibpcdlaaGreatDoor
open _root_.Go.Proofs.Tryz
open Go.Sx Go.Vm
def w64s(l:List Nat): List D:=l.map w64
def bls(l:List Bool): List D:=l.map bl
theorem zAl(l:List Nat): (w64s l).length=l.length:=qAC _
theorem zGE(l:List Bool): (bls l).length=l.length:=qAC _
abbrev HO(size:Int)(now other:List Nat)(beg:List Bool): List Ob :=
 [.box [.buf 1 now.length,.buf 2 other.length,.d (i64 size),.buf 3 beg.length],.buf true 58 1 (w64s now),.buf true 58 1 (w64s other),.buf true 4 1 (bls beg)]
attribute [local irreducible] zAN Program.underlying Ylds zA9 alex zB3 zBf awp zAi zCC zCB zAU zAz zBj zBB zBr zB2 zB8 zBi zBd
theorem zJv(size:Int)(now other:List Nat)(beg:List Bool)(h:0<=size/\size<=1048576/\now.length<=1048576): zAz prog 128 [.ptr 0 0] (HO size now other beg) (i64 (size-(now.length:Int))):=by
 refine zCX func128 rfl ntmps128 results128 rfl ?_
 intro wb St0
 repeat' first|apply en_n|apply zAH|apply zAA|apply zAD|apply w0|exact zAK rfl|apply ay (hd:=rfl)|exact zAB rfl|refine zDb rfl rfl ?_|exact zA5 rfl zCq|exact zAG rfl|(apply zAC;exact rfl;(with_reducible first|exact zCv|exact zJ7))|(apply zAE;exact rfl;(with_reducible first|exact zBC|exact zAP);exact rfl;exact rfl)|apply zAQ|refine zAj (by kernel_rfl) (by kernel_rfl) ?_|apply zAR|refine res1 rfl ?_
 all_goals first|omega|rfl
theorem zRy(size:Int)(now other:List Nat)(beg:List Bool){w:Nat}(h:w%2=1)(hw:w<18446744073709551616): zAz prog 98 [.ptr 0 0,.d (w64 w)] (HO size now other beg) (.tup [i64 0,bl false]):=by
 have h1:=zPP w hw
 have h2:IntKind.u64.wrap (BitVec.ofInt IntKind.u64.bits (w:Int) &&& BitVec.ofInt IntKind.u64.bits 1).toNat=1:=by rw[h1];omega
 refine zCX func98 rfl ntmps98 results98 rfl ?_
 intro wb St0
 repeat' first|apply en_n|apply zAH|apply zAA|apply zAD|apply w0|(apply k0u (hd:=rfl);exact rfl;exact rfl)|exact zMW rfl rfl|(apply zAk;exact rfl;exact rfl;assumption)|apply ay (hd:=rfl)|exact zAF rfl|exact zAB rfl|exact zAa rfl rfl|refine zAI rfl ?_|apply zAQ|apply en_r|apply zAR|(apply res2;exact rfl;exact rfl)
 all_goals rfl
theorem zUX(size:Int)(now other:List Nat)(beg:List Bool){a:Nat}(h:a<now.length)(hn:now.length<=1048576)(hb:beg[a]?=some true): zAz prog 98 [.ptr 0 0,.d (w64 (2*a))] (HO size now other beg) (.tup [i64 (a:Int),bl true]):=by
 have h1:=zPP (2*a) (by omega)
 have h2:¬IntKind.u64.wrap (BitVec.ofInt IntKind.u64.bits ((2*a:Nat):Int) &&& BitVec.ofInt IntKind.u64.bits 1).toNat=1:=by rw[h1];omega
 have h3:(((2*a:Nat):Int)).fdiv (2 ^ min (1:Int).toNat IntKind.u64.bits)=(a:Int):=by rw[zYT];omega
 have h4:¬(((2*a:Nat):Int)).fdiv (2 ^ min (1:Int).toNat IntKind.u64.bits)>=IntKind.u64.wrap (now.length:Int):=by rw[h3,zDl];omega
 have hbl:=(qAA.1 hb).1
 refine zCX func98 rfl ntmps98 results98 rfl ?_
 intro wb St0
 repeat' first|apply en_n|apply zAH|apply zAA|apply zAD|apply w0|exact zAK rfl|(apply zD6;exact rfl;(first|with_reducible exact si64|with_reducible exact su64|with_reducible exact zH2|with_reducible exact sint|with_reducible exact sbk);(first|with_reducible exact ui64|with_reducible exact uu64|with_reducible exact zIT|with_reducible exact uint|with_reducible exact ubk))|(apply zLE;exact rfl;exact rfl;exact(by decide))|exact zMW rfl rfl|(apply zAm;exact rfl;exact rfl;assumption)|(apply zIP;exact rfl;exact rfl;assumption)|(apply zBZ;exact rfl;exact rfl;exact rfl;(with_reducible exact zGm);(rw[h3];omega);(rw[zGE];omega))|(apply zCl;exact rfl;(with_reducible exact zAc);exact rfl;(show (bls beg)[Int.toNat _]?=some (bl true);rw[h3,qAj,bls,qAL,hb];rfl);exact rfl)|apply ay (hd:=rfl)|exact zAF rfl|exact zAB rfl|exact zBX rfl|exact zAX rfl rfl|exact zA5 rfl zCq|exact zAG rfl|(apply zAC;exact rfl;(with_reducible first|exact zCv|exact zGi))|(apply zAE;exact rfl;(with_reducible first|exact zBC|exact zIb);exact rfl;exact rfl)|refine w1 rfl rfl ?_|refine zAJ rfl ?_|apply zAS|apply zAQ|apply zAR|(apply res2;exact rfl;exact rfl)
 ·rw[h3,zG5];refine congrArg (fun x=>D.val (.int .i64 x)) ?_;omega
 ·rfl
theorem zP7(size:Int)(now other:List Nat)(beg:List Bool){w:Nat}(h:w%2=1)(hw:w<18446744073709551616): zAz prog 131 [.ptr 0 0,.d (w64 w)] (HO size now other beg) (bl true):=by
 have h1:=zPP w hw
 have h2:IntKind.u64.wrap (BitVec.ofInt IntKind.u64.bits (w:Int) &&& BitVec.ofInt IntKind.u64.bits 1).toNat=1:=by rw[h1];omega
 have ha:=zRy size now other beg h hw
 refine zCX func131 rfl ntmps131 results131 rfl ?_
 intro wb St0
 repeat' first|apply en_n|apply zAH|apply zAA|apply zAD|apply w0|exact zMW rfl rfl|(apply zAk;exact rfl;exact rfl;assumption)|(refine zAW [0,1,2,3] [] rfl rfl zGB (ha) rfl (SArgs_all rfl) rfl (by decide) rfl rfl rfl rfl)|apply ay (hd:=rfl)|exact zAF rfl|exact zAB rfl|exact zAX rfl rfl|exact zAg rfl rfl|exact zAG rfl|refine w1 rfl rfl ?_|apply zAQ|apply zAR|refine res1 rfl ?_
 all_goals rfl
theorem zSs(size:Int)(now other:List Nat)(beg:List Bool){a:Nat}(h:a<now.length)(hn:now.length<=1048576)(hb:beg[a]?=some true): zAz prog 131 [.ptr 0 0,.d (w64 (2*a))] (HO size now other beg) (bl true):=by
 have ha:=zUX size now other beg h hn hb
 refine zCX func131 rfl ntmps131 results131 rfl ?_
 intro wb St0
 repeat' first|apply en_n|apply zAH|apply zAA|apply zAD|apply w0|(apply k0u (hd:=rfl);exact rfl;exact rfl)|(refine zAW [0,1,2,3] [] rfl rfl zGB (ha) rfl (SArgs_all rfl) rfl (by decide) rfl rfl rfl rfl)|apply ay (hd:=rfl)|exact zAF rfl|exact zAB rfl|exact zAa rfl rfl|exact zAg rfl rfl|exact zAG rfl|apply zAQ|apply zAR|refine res1 rfl ?_
 all_goals rfl
theorem zSX(size:Int)(now other:List Nat)(beg:List Bool){w:Nat}(h:w%2=1)(hw:w<18446744073709551616): zAz prog 53 [.ptr 0 0,.d (w64 w)] (HO size now other beg) (.tup [i64 0,i64 0,i64 0,bl false]):=by
 have ha:=zRy size now other beg h hw
 refine zHd func53 rfl ntmps53 results53 rfl ?_
 intro wb St0
 repeat' first|apply en_n|apply zAH|apply zAA|apply zAD|apply w0|(refine zBu ?_)|(refine zCJ ?_)|exact zDC|(refine RV_d rfl ?_ ?_)|(with_reducible exact rfl)|(refine zAW [0,1,2,3] [] rfl rfl zGB (ha) rfl (SArgs_all rfl) rfl (by decide) rfl rfl rfl rfl)|apply ay (hd:=rfl)|exact zAF rfl|exact zAB rfl|exact zBX rfl|exact zAg rfl rfl|exact zAG rfl|refine zAI rfl ?_|apply zAQ|apply en_r
 all_goals rfl
theorem zIy(size:Int)(now other:List Nat)(beg:List Bool){a:Nat}{o:Thing}(h:now[a]?=some (zCt o))(ho:HeadOk o)(hn:now.length<=1048576)(hb:beg[a]?=some true): zAz prog 53 [.ptr 0 0,.d (w64 (2*a))] (HO size now other beg) (.tup [i64 o.kind,i64 o.tag,i64 (if o.kind=4 then 0 else(o.size:Int)),bl true]):=by
 have hl:=(qAA.1 h).1
 have ha:=zUX size now other beg hl hn hb
 have ht:=zMn o ho
 refine zHd func53 rfl ntmps53 results53 rfl ?_
 intro wb St0
 by_cases hk:o.kind=4
 all_goals
  repeat' first|apply en_n|apply zAH|apply zAA|apply zAD|apply w0|(refine zBu ?_)|(refine zCJ ?_)|exact zDC|(refine RV_d rfl ?_ ?_)|(with_reducible exact rfl)|exact zAk rfl rfl|exact zAm rfl rfl|exact zAK rfl|(refine zAW [0,1,2,3] [] rfl rfl zGB (ha) rfl (SArgs_all rfl) rfl (by decide) rfl rfl rfl rfl)|(refine zAb zEY ht (zAY rfl zAM))|(apply zBZ;exact rfl;exact rfl;exact rfl;(with_reducible exact zBQ);omega;(rw[zAl];omega))|(apply zCl;exact rfl;(with_reducible exact zBO);exact rfl;(show (w64s now)[Int.toNat _]?=some (w64 (zCt o));rw[qAj,w64s,qAL,h];rfl);exact rfl)|apply ay (hd:=rfl)|exact zAF rfl|exact zAB rfl|exact zBX rfl|exact zAg rfl rfl|exact zAG rfl|exact zAC rfl zCv|exact zAE rfl zBC rfl rfl|refine zAI rfl ?_|refine zAJ rfl ?_|apply zAS|apply zAQ
 all_goals first|rfl|skip
 ·rw[if_pos hk]
 ·rw[if_neg hk]
end Go.Proofs.YtcagoomibpcdlaaGreatDoor
