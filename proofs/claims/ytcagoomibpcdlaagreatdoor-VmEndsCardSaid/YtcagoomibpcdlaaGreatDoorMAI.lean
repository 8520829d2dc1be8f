/- Parts of the proof. -/
import Derived.Test.YtcagoomibpcdlaaGreatDoorMAH
set_option maxHeartbeats 16000000
namespace Go.Proofs.YtcagoomibpcdlaaGreatDoor
open _root_.Go.Proofs.Tryz
open Go.Sx Go.Vm
def w64s(l:List Nat): List D:=l.map w64
def bls(l:List Bool): List D:=l.map bl
theorem zAm(l:List Nat): (w64s l).length=l.length:=qAC _
theorem zGJ(l:List Bool): (bls l).length=l.length:=qAC _
abbrev HO(size:Int)(now other:List Nat)(beg:List Bool): List Ob :=
 [.box [.buf 1 now.length,.buf 2 other.length,.d (i64 size),.buf 3 beg.length],.buf true 58 1 (w64s now),.buf true 58 1 (w64s other),.buf true 4 1 (bls beg)]
attribute [local irreducible] zAO Program.underlying Ylds zBE alex zB0 zBk awp zAg zB9 zB8 zAU zA6 zBn zBC zBq zBz zB7 zBm zBc
theorem zKN(size:Int)(now other:List Nat)(beg:List Bool)(h:0<=size/\size<=1048576/\now.length<=1048576): zA6 prog 128 [.ptr 0 0] (HO size now other beg) (i64 (size-(now.length:Int))):=by
 refine zCb func128 rfl ntmps128 results128 rfl ?_
 intro wb St0
 repeat' first|apply en_n|apply zAG|apply zAA|apply zAD|apply w0|exact zAL rfl|apply ay (hd:=rfl)|exact zAB rfl|refine zC2 rfl rfl ?_|exact zA3 rfl zCq|exact zAH rfl|(apply zAC;exact rfl;(with_reducible first|exact zCw|exact zKa))|(apply zAE;exact rfl;(with_reducible first|exact zBJ|exact zAP);exact rfl;exact rfl)|apply zAQ|refine zAf (by kernel_rfl) (by kernel_rfl) ?_|apply zAT|refine res1 rfl ?_
 all_goals first|omega|rfl
theorem zSm(size:Int)(now other:List Nat)(beg:List Bool){w:Nat}(h:w%2=1)(hw:w<18446744073709551616): zA6 prog 98 [.ptr 0 0,.d (w64 w)] (HO size now other beg) (.tup [i64 0,bl false]):=by
 have h1:=zP2 w hw
 have h2:IntKind.u64.wrap (BitVec.ofInt IntKind.u64.bits (w:Int) &&& BitVec.ofInt IntKind.u64.bits 1).toNat=1:=by rw[h1];omega
 refine zCb func98 rfl ntmps98 results98 rfl ?_
 intro wb St0
 repeat' first|apply en_n|apply zAG|apply zAA|apply zAD|apply w0|refine k0u (hd:=rfl) rfl rfl ?_|exact zM5 rfl rfl|(apply zAi;exact rfl;exact rfl;assumption)|apply ay (hd:=rfl)|exact zAF rfl|exact zAB rfl|exact zAZ rfl rfl|refine zAI rfl ?_|apply zAQ|apply en_r|apply zAT|(apply res2;exact rfl;exact rfl)
 all_goals rfl
theorem zVF(size:Int)(now other:List Nat)(beg:List Bool){a:Nat}(h:a<now.length)(hn:now.length<=1048576)(hb:beg[a]?=some true): zA6 prog 98 [.ptr 0 0,.d (w64 (2*a))] (HO size now other beg) (.tup [i64 (a:Int),bl true]):=by
 have h1:=zP2 (2*a) (by omega)
 have h2:¬IntKind.u64.wrap (BitVec.ofInt IntKind.u64.bits ((2*a:Nat):Int) &&& BitVec.ofInt IntKind.u64.bits 1).toNat=1:=by rw[h1];omega
 have h3:(((2*a:Nat):Int)).fdiv (2 ^ min (1:Int).toNat IntKind.u64.bits)=(a:Int):=by rw[zZB];omega
 have h4:¬(((2*a:Nat):Int)).fdiv (2 ^ min (1:Int).toNat IntKind.u64.bits)>=IntKind.u64.wrap (now.length:Int):=by rw[h3,zDm];omega
 have hbl:=(qAA.1 hb).1
 refine zCb func98 rfl ntmps98 results98 rfl ?_
 intro wb St0
 repeat' first|apply en_n|apply zAG|apply zAA|apply zAD|apply w0|exact zAL rfl|(apply zEA;exact rfl;(first|with_reducible exact si64|with_reducible exact su64|with_reducible exact zII|with_reducible exact sint|with_reducible exact sbk);(first|with_reducible exact ui64|with_reducible exact uu64|with_reducible exact zIl|with_reducible exact uint|with_reducible exact ubk))|(apply zLj;exact rfl;exact rfl;exact(by decide))|exact zM5 rfl rfl|(apply zAn;exact rfl;exact rfl;assumption)|(apply zGm;exact rfl;exact rfl;assumption)|(apply zBM;exact rfl;exact rfl;exact rfl;(with_reducible exact zGu);(rw[h3];omega);(rw[zGJ];omega))|(apply zCR;exact rfl;(with_reducible exact zAb);exact rfl;(show (bls beg)[Int.toNat _]?=some (bl true);rw[h3,qAj,bls,qAL,hb];rfl);exact rfl)|apply ay (hd:=rfl)|exact zAF rfl|exact zAB rfl|exact zBS rfl|exact zAV rfl rfl|exact zA3 rfl zCq|exact zAH rfl|(apply zAC;exact rfl;(with_reducible first|exact zCw|exact zGr))|(apply zAE;exact rfl;(with_reducible first|exact zBJ|exact zIq);exact rfl;exact rfl)|refine w1 rfl rfl ?_|refine zAJ rfl ?_|apply zAR|apply zAQ|apply zAT|(apply res2;exact rfl;exact rfl)
 ·rw[h3,zHE];refine congrArg (fun x=>D.val (.int .i64 x)) ?_;omega
 ·rfl
theorem zQl(size:Int)(now other:List Nat)(beg:List Bool){w:Nat}(h:w%2=1)(hw:w<18446744073709551616): zA6 prog 131 [.ptr 0 0,.d (w64 w)] (HO size now other beg) (bl true):=by
 have h1:=zP2 w hw
 have h2:IntKind.u64.wrap (BitVec.ofInt IntKind.u64.bits (w:Int) &&& BitVec.ofInt IntKind.u64.bits 1).toNat=1:=by rw[h1];omega
 have ha:=zSm size now other beg h hw
 refine zCb func131 rfl ntmps131 results131 rfl ?_
 intro wb St0
 repeat' first|apply en_n|apply zAG|apply zAA|apply zAD|apply w0|exact zM5 rfl rfl|(apply zAi;exact rfl;exact rfl;assumption)|(refine zAX [0,1,2,3] [] rfl rfl zGG (ha) rfl (SArgs_all rfl) rfl (by decide) rfl rfl rfl rfl)|apply ay (hd:=rfl)|exact zAF rfl|exact zAB rfl|exact zAV rfl rfl|exact zAk rfl rfl|exact zAH rfl|refine w1 rfl rfl ?_|apply zAQ|apply zAT|refine res1 rfl ?_
 all_goals rfl
theorem zTd(size:Int)(now other:List Nat)(beg:List Bool){a:Nat}(h:a<now.length)(hn:now.length<=1048576)(hb:beg[a]?=some true): zA6 prog 131 [.ptr 0 0,.d (w64 (2*a))] (HO size now other beg) (bl true):=by
 have ha:=zVF size now other beg h hn hb
 refine zCb func131 rfl ntmps131 results131 rfl ?_
 intro wb St0
 repeat' first|apply en_n|apply zAG|apply zAA|apply zAD|apply w0|refine k0u (hd:=rfl) rfl rfl ?_|(refine zAX [0,1,2,3] [] rfl rfl zGG (ha) rfl (SArgs_all rfl) rfl (by decide) rfl rfl rfl rfl)|apply ay (hd:=rfl)|exact zAF rfl|exact zAB rfl|exact zAZ rfl rfl|exact zAk rfl rfl|exact zAH rfl|apply zAQ|apply zAT|refine res1 rfl ?_
 all_goals rfl
theorem zTI(size:Int)(now other:List Nat)(beg:List Bool){w:Nat}(h:w%2=1)(hw:w<18446744073709551616): zA6 prog 53 [.ptr 0 0,.d (w64 w)] (HO size now other beg) (.tup [i64 0,i64 0,i64 0,bl false]):=by
 have ha:=zSm size now other beg h hw
 refine zHp func53 rfl ntmps53 results53 rfl ?_
 intro wb St0
 repeat' first|apply en_n|apply zAG|apply zAA|apply zAD|apply w0|(refine zBQ ?_)|(refine zBp ?_)|exact zCh|(refine RV_d rfl ?_ ?_)|(with_reducible exact rfl)|(refine zAX [0,1,2,3] [] rfl rfl zGG (ha) rfl (SArgs_all rfl) rfl (by decide) rfl rfl rfl rfl)|apply ay (hd:=rfl)|exact zAF rfl|exact zAB rfl|exact zBS rfl|exact zAk rfl rfl|exact zAH rfl|refine zAI rfl ?_|apply zAQ|apply en_r
 all_goals rfl
theorem zJE(size:Int)(now other:List Nat)(beg:List Bool){a:Nat}{o:Thing}(h:now[a]?=some (zCu o))(ho:HeadOk o)(hn:now.length<=1048576)(hb:beg[a]?=some true): zA6 prog 53 [.ptr 0 0,.d (w64 (2*a))] (HO size now other beg) (.tup [i64 o.kind,i64 o.tag,i64 (if o.kind=4 then 0 else(o.size:Int)),bl true]):=by
 have hl:=(qAA.1 h).1
 have ha:=zVF size now other beg hl hn hb
 have ht:=zNM o ho
 refine zHp func53 rfl ntmps53 results53 rfl ?_
 intro wb St0
 by_cases hk:o.kind=4
 all_goals
  repeat' first|apply en_n|apply zAG|apply zAA|apply zAD|apply w0|(refine zBQ ?_)|(refine zBp ?_)|exact zCh|(refine RV_d rfl ?_ ?_)|(with_reducible exact rfl)|exact zAi rfl rfl|exact zAn rfl rfl|exact zAL rfl|(refine zAX [0,1,2,3] [] rfl rfl zGG (ha) rfl (SArgs_all rfl) rfl (by decide) rfl rfl rfl rfl)|(refine zAd zEh ht (CoLA rfl))|(apply zBM;exact rfl;exact rfl;exact rfl;(with_reducible exact zBY);omega;(rw[zAm];omega))|(apply zCR;exact rfl;(with_reducible exact zBU);exact rfl;(show (w64s now)[Int.toNat _]?=some (w64 (zCu o));rw[qAj,w64s,qAL,h];rfl);exact rfl)|apply ay (hd:=rfl)|exact zAF rfl|exact zAB rfl|exact zBS rfl|exact zAk rfl rfl|exact zAH rfl|exact zAC rfl zCw|exact zAE rfl zBJ rfl rfl|refine zAI rfl ?_|refine zAJ rfl ?_|apply zAR|apply zAQ
 all_goals first|rfl|skip
 ·rw[if_pos hk]
 ·rw[if_neg hk]
end Go.Proofs.YtcagoomibpcdlaaGreatDoor
