import Derived.Test.YtcagoomibpcdlaaGreatDoorMAU
set_option maxHeartbeats 16000000
namespace Go.Proofs.YtcagoomibpcdlaaGreatDoor
open _root_.Go.Proofs.Tryz
open Go.Sx Go.Vm
attribute [local irreducible] zAL Program.underlying Ylds zA2 alex zBZ zBP awp zAb zBh zBg zAW zBF zAp zBG zBR zAr zBV zBY zBe zBM zA8 zBE
theorem zUJ(m:Img)(r r':Raw)(hI:zAW prog 79 [.ptr 0 0,.clo 80 [9]] (MXb m r) .top (MXb m r')): zAW prog 48 [.ptr 0 0,.d (i64 0)] (MX m r) .top (MX m r'):=by
 refine zBr func48 rfl ntmps48 results48 rfl ?_
 intro wb St0 X fx
 exact yM
theorem zUI(m:Img)(r r':Raw)(hI:zAW prog 79 [.ptr 0 0,.clo 83 [9]] (MXb m r) .top (MXb m r')): zAW prog 48 [.ptr 0 0,.d (i64 1)] (MX m r) .top (MX m r'):=by
 refine zBr func48 rfl ntmps48 results48 rfl ?_
 intro wb St0 X fx
 exact yM
theorem zUH(m:Img)(r r':Raw)(hI:zAW prog 79 [.ptr 0 0,.clo 85 [9]] (MXb m r) .top (MXb m r')): zAW prog 48 [.ptr 0 0,.d (i64 2)] (MX m r) .top (MX m r'):=by
 refine zBr func48 rfl ntmps48 results48 rfl ?_
 intro wb St0 X fx
 exact yM
theorem zUG(m:Img)(r r':Raw)(hI:zAW prog 79 [.ptr 0 0,.clo 87 [9]] (MXb m r) .top (MXb m r')): zAW prog 48 [.ptr 0 0,.d (i64 3)] (MX m r) .top (MX m r'):=by
 refine zBr func48 rfl ntmps48 results48 rfl ?_
 intro wb St0 X fx
 exact yM
theorem zUF(m:Img)(r r':Raw)(hI:zAW prog 79 [.ptr 0 0,.clo 90 [9]] (MXb m r) .top (MXb m r')): zAW prog 48 [.ptr 0 0,.d (i64 4)] (MX m r) .top (MX m r'):=by
 refine zBr func48 rfl ntmps48 results48 rfl ?_
 intro wb St0 X fx
 exact yM
theorem zUE(m:Img)(r r':Raw)(hI:zAW prog 79 [.ptr 0 0,.clo 92 [9]] (MXb m r) .top (MXb m r')): zAW prog 48 [.ptr 0 0,.d (i64 5)] (MX m r) .top (MX m r'):=by
 refine zBr func48 rfl ntmps48 results48 rfl ?_
 intro wb St0 X fx
 exact yM
theorem zUD(m:Img)(r r':Raw)(hI:zAW prog 79 [.ptr 0 0,.clo 94 [9]] (MXb m r) .top (MXb m r')): zAW prog 48 [.ptr 0 0,.d (i64 6)] (MX m r) .top (MX m r'):=by
 refine zBr func48 rfl ntmps48 results48 rfl ?_
 intro wb St0 X fx
 exact yM
theorem zIP(m:Img)(r r':Raw)(hI:zAW prog 95 [.ptr 0 0] (MX m r) .top (MX m r')): zAW prog 48 [.ptr 0 0,.d (i64 7)] (MX m r) .top (MX m r'):=by
 refine zBr func48 rfl ntmps48 results48 rfl ?_
 intro wb St0 X fx
 exact yR
theorem zXN(m:Img)(r r':Raw)(hI:zAW prog 46 [.ptr 0 0,.d (i64 3),.d (i64 0),.d (i64 1)] (MX m r) .top (MX m r')): zAW prog 48 [.ptr 0 0,.d (i64 9)] (MX m r) .top (MX m r'):=by
 refine zBr func48 rfl ntmps48 results48 rfl ?_
 intro wb St0 X fx
 exact yR
theorem zPl(m:Img)(r r':Raw)(hI:zAW prog 97 [.ptr 0 0,.d (i64 8)] (MX m r) .top (MX m r')): zAW prog 48 [.ptr 0 0,.d (i64 8)] (MX m r) .top (MX m r'):=by
 refine zBr func48 rfl ntmps48 results48 rfl ?_
 intro wb St0 X fx
 exact yR
theorem zON(m:Img)(r r':Raw)(hI:zAW prog 97 [.ptr 0 0,.d (i64 10)] (MX m r) .top (MX m r')): zAW prog 48 [.ptr 0 0,.d (i64 10)] (MX m r) .top (MX m r'):=by
 refine zBr func48 rfl ntmps48 results48 rfl ?_
 intro wb St0 X fx
 exact yR
theorem zOM(m:Img)(r r':Raw)(hI:zAW prog 97 [.ptr 0 0,.d (i64 11)] (MX m r) .top (MX m r')): zAW prog 48 [.ptr 0 0,.d (i64 11)] (MX m r) .top (MX m r'):=by
 refine zBr func48 rfl ntmps48 results48 rfl ?_
 intro wb St0 X fx
 exact yR
theorem zOL(m:Img)(r r':Raw)(hI:zAW prog 97 [.ptr 0 0,.d (i64 13)] (MX m r) .top (MX m r')): zAW prog 48 [.ptr 0 0,.d (i64 13)] (MX m r) .top (MX m r'):=by
 refine zBr func48 rfl ntmps48 results48 rfl ?_
 intro wb St0 X fx
 exact yR
theorem zOK(m:Img)(r:Raw){u:Nat}(ht:Arg r 1 u)(h1:zAb prog 54 [w64 u] (.tup [i64 0,bl false])): zAW prog 48 [.ptr 0 0,.d (i64 12)] (MX m r) .top (MX m { r with fin:=4 }):=by
 obtain⟨hn,_,hu,hl⟩:=ht
 have hT:=zCH m r (k:=0) (by omega) hu hl
 have hN:=zG9 m r h1
 refine zBr func48 rfl ntmps48 results48 rfl ?_
 intro wb St0 X fx
 exact yM
theorem zUB(m:Img)(r:Raw){u:Nat}{a:Int}(ht:Arg r 1 u)(h1:zAb prog 54 [w64 u] (.tup [i64 a,bl true]))(ho:r.out.length<=1048576): zAW prog 48 [.ptr 0 0,.d (i64 12)] (MX m r) .top (MX m { r with out:=r.out++[shw (W a)] }):=by
 obtain⟨hn,_,hu,hl⟩:=ht
 have hT:=zCH m r (k:=0) (by omega) hu hl
 have hN:=zFH m r h1
 refine zBr func48 rfl ntmps48 results48 rfl ?_
 intro wb St0 X fx
 repeat' first|(refine zLs (rid:=24) [.ptr 0 0,.ptr 0 0,.ptr 0 0,.ptr 0 (0+9),.ptr 0 (0+9+3),.buf 8 r.out.length,.d (i64 a),.d (str (shw (W a))),.d (.slice [str (shw (W a))]),.top] 9 8 (by kernel_rfl) (by kernel_rfl) rfl rfl rfl (.inr (by kernel_rfl)) ⟨.inr ⟨⟨rfl,zAG rfl zC2 rfl rfl⟩,rfl,rfl,.inr ⟨rfl,rfl,zAG rfl zC2 rfl rfl⟩⟩,⟨.inr ⟨⟨rfl,zAG rfl zC2 rfl rfl⟩,rfl,rfl,.inl (by kernel_rfl)⟩,⟨.inr ⟨⟨rfl,zAa rfl⟩,rfl,rfl,.inl (by kernel_rfl)⟩,⟨.inr ⟨⟨rfl,zAF rfl zCL⟩,rfl,rfl,.inl (by kernel_rfl)⟩,⟨.inr ⟨⟨rfl,zAF rfl zJD⟩,rfl,rfl,.inl (by kernel_rfl)⟩,⟨.inr ⟨⟨rfl,zAG rfl zE2 rfl rfl⟩,rfl,rfl,.inl (by kernel_rfl)⟩,⟨.inr ⟨⟨rfl,zAD rfl⟩,rfl,rfl,.inl (by kernel_rfl)⟩,⟨.inr ⟨⟨rfl,zAR zXt (zWK _) (zAN rfl zAH)⟩,rfl,rfl,.inl (by kernel_rfl)⟩,⟨.inr ⟨⟨rfl,zCA zFA zEn zKj rfl rfl (zAN rfl zAH) rfl⟩,rfl,rfl,.inl (by kernel_rfl)⟩,⟨.inl rfl,trivial⟩⟩⟩⟩⟩⟩⟩⟩⟩⟩ rfl rfl rfl (qAC _).symm rfl zFA zEn zQN zNY rfl rfl (zCu rfl) (by simp only[qAN,qAj];omega) ?_)|apply en_n|apply zAE|apply zAA|apply zAB|apply w0|(refine zCJ (by kernel_rfl) ?_;refine aStA ?_)|exact qcA ids9 [] zBJ (hT)|exact qcA ids9 [] zDB (hN)|refine aBoA ?_|refine ayA rfl ?_|refine ayQ rfl ?_|apply ay (hd:=rfl)|(refine w0' ?_)|refine zAJ rfl ?_|refine zAI rfl ?_|apply zAO|refine awDA ?_|apply eb_n
 all_goals first|omega|skip
 all_goals exact zC5 ⟨rfl,zAU Le_nil (zFl rfl rfl rfl rfl rfl qAE rfl rfl rfl rfl rfl rfl (zBs rfl) (zBs rfl) (zBs rfl) (congrArg (Ob.buf true _ 1) (zTc r.out _).symm)) rfl rfl⟩
