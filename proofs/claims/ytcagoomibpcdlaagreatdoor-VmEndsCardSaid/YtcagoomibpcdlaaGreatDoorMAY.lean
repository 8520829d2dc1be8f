/- Parts of the proof. -/
import Derived.Test.YtcagoomibpcdlaaGreatDoorMAX
set_option maxHeartbeats 16000000
namespace Go.Proofs.YtcagoomibpcdlaaGreatDoor
open _root_.Go.Proofs.Tryz
open Go.Sx Go.Vm
attribute [local irreducible] zAO Program.underlying Ylds zBE alex zB0 zBk awp zAg zB9 zB8 zAU zBj zA6 zBl zBn zBC zBq zBz zB7 zBm zBc zBe
theorem zRc(m:Img)(r r':Raw)(hI:zAU prog 79 [.ptr 0 0,.clo 80 [9]] (MXb m r) .top (MXb m r')): zAU prog 48 [.ptr 0 0,.d (i64 0)] (MX m r) .top (MX m r'):=by
 refine zA7 func48 rfl ntmps48 results48 rfl ?_
 intro wb St0 X fx
 repeat' first|apply en_n|apply zAG|apply zAA|apply zAD|apply w0|exact zAi rfl rfl|(refine aVMi (fx:=fx) (k:=none) (m:=m) (r:=r) zEU hI (SArgs_all rfl) rfl rfl ?_)|refine aBox (hd:=rfl) (hro:=rfl) rfl rfl ?_|apply ay (hd:=rfl)|exact zAF rfl|exact zAB rfl|exact zAE rfl zCj rfl rfl|exact zKX rfl|refine zAI rfl ?_|apply zAK|apply eb_n
 all_goals first|omega|skip
 all_goals exact zBO rfl rfl
theorem zRb(m:Img)(r r':Raw)(hI:zAU prog 79 [.ptr 0 0,.clo 83 [9]] (MXb m r) .top (MXb m r')): zAU prog 48 [.ptr 0 0,.d (i64 1)] (MX m r) .top (MX m r'):=by
 refine zA7 func48 rfl ntmps48 results48 rfl ?_
 intro wb St0 X fx
 repeat' first|apply en_n|apply zAG|apply zAA|apply zAD|apply w0|exact zAi rfl rfl|exact zAn rfl rfl|(refine aVMi (fx:=fx) (k:=none) (m:=m) (r:=r) zEU hI (SArgs_all rfl) rfl rfl ?_)|refine aBox (hd:=rfl) (hro:=rfl) rfl rfl ?_|apply ay (hd:=rfl)|exact zAF rfl|exact zAB rfl|exact zAE rfl zCj rfl rfl|exact zKX rfl|refine zAI rfl ?_|refine zAJ rfl ?_|apply zAK|apply eb_n
 all_goals first|omega|skip
 all_goals exact zBO rfl rfl
theorem zRa(m:Img)(r r':Raw)(hI:zAU prog 79 [.ptr 0 0,.clo 85 [9]] (MXb m r) .top (MXb m r')): zAU prog 48 [.ptr 0 0,.d (i64 2)] (MX m r) .top (MX m r'):=by
 refine zA7 func48 rfl ntmps48 results48 rfl ?_
 intro wb St0 X fx
 repeat' first|apply en_n|apply zAG|apply zAA|apply zAD|apply w0|exact zAi rfl rfl|exact zAn rfl rfl|(refine aVMi (fx:=fx) (k:=none) (m:=m) (r:=r) zEU hI (SArgs_all rfl) rfl rfl ?_)|refine aBox (hd:=rfl) (hro:=rfl) rfl rfl ?_|apply ay (hd:=rfl)|exact zAF rfl|exact zAB rfl|exact zAE rfl zCj rfl rfl|exact zKX rfl|refine zAI rfl ?_|refine zAJ rfl ?_|apply zAK|apply eb_n
 all_goals first|omega|skip
 all_goals exact zBO rfl rfl
theorem zRZ(m:Img)(r r':Raw)(hI:zAU prog 79 [.ptr 0 0,.clo 87 [9]] (MXb m r) .top (MXb m r')): zAU prog 48 [.ptr 0 0,.d (i64 3)] (MX m r) .top (MX m r'):=by
 refine zA7 func48 rfl ntmps48 results48 rfl ?_
 intro wb St0 X fx
 repeat' first|apply en_n|apply zAG|apply zAA|apply zAD|apply w0|exact zAi rfl rfl|exact zAn rfl rfl|(refine aVMi (fx:=fx) (k:=none) (m:=m) (r:=r) zEU hI (SArgs_all rfl) rfl rfl ?_)|refine aBox (hd:=rfl) (hro:=rfl) rfl rfl ?_|apply ay (hd:=rfl)|exact zAF rfl|exact zAB rfl|exact zAE rfl zCj rfl rfl|exact zKX rfl|refine zAI rfl ?_|refine zAJ rfl ?_|apply zAK|apply eb_n
 all_goals first|omega|skip
 all_goals exact zBO rfl rfl
theorem zRY(m:Img)(r r':Raw)(hI:zAU prog 79 [.ptr 0 0,.clo 90 [9]] (MXb m r) .top (MXb m r')): zAU prog 48 [.ptr 0 0,.d (i64 4)] (MX m r) .top (MX m r'):=by
 refine zA7 func48 rfl ntmps48 results48 rfl ?_
 intro wb St0 X fx
 repeat' first|apply en_n|apply zAG|apply zAA|apply zAD|apply w0|exact zAi rfl rfl|exact zAn rfl rfl|(refine aVMi (fx:=fx) (k:=none) (m:=m) (r:=r) zEU hI (SArgs_all rfl) rfl rfl ?_)|refine aBox (hd:=rfl) (hro:=rfl) rfl rfl ?_|apply ay (hd:=rfl)|exact zAF rfl|exact zAB rfl|exact zAE rfl zCj rfl rfl|exact zKX rfl|refine zAI rfl ?_|refine zAJ rfl ?_|apply zAK|apply eb_n
 all_goals first|omega|skip
 all_goals exact zBO rfl rfl
theorem zRX(m:Img)(r r':Raw)(hI:zAU prog 79 [.ptr 0 0,.clo 92 [9]] (MXb m r) .top (MXb m r')): zAU prog 48 [.ptr 0 0,.d (i64 5)] (MX m r) .top (MX m r'):=by
 refine zA7 func48 rfl ntmps48 results48 rfl ?_
 intro wb St0 X fx
 repeat' first|apply en_n|apply zAG|apply zAA|apply zAD|apply w0|exact zAi rfl rfl|exact zAn rfl rfl|(refine aVMi (fx:=fx) (k:=none) (m:=m) (r:=r) zEU hI (SArgs_all rfl) rfl rfl ?_)|refine aBox (hd:=rfl) (hro:=rfl) rfl rfl ?_|apply ay (hd:=rfl)|exact zAF rfl|exact zAB rfl|exact zAE rfl zCj rfl rfl|exact zKX rfl|refine zAI rfl ?_|refine zAJ rfl ?_|apply zAK|apply eb_n
 all_goals first|omega|skip
 all_goals exact zBO rfl rfl
theorem zRW(m:Img)(r r':Raw)(hI:zAU prog 79 [.ptr 0 0,.clo 94 [9]] (MXb m r) .top (MXb m r')): zAU prog 48 [.ptr 0 0,.d (i64 6)] (MX m r) .top (MX m r'):=by
 refine zA7 func48 rfl ntmps48 results48 rfl ?_
 intro wb St0 X fx
 repeat' first|apply en_n|apply zAG|apply zAA|apply zAD|apply w0|exact zAi rfl rfl|exact zAn rfl rfl|(refine aVMi (fx:=fx) (k:=none) (m:=m) (r:=r) zEU hI (SArgs_all rfl) rfl rfl ?_)|refine aBox (hd:=rfl) (hro:=rfl) rfl rfl ?_|apply ay (hd:=rfl)|exact zAF rfl|exact zAB rfl|exact zAE rfl zCj rfl rfl|exact zKX rfl|refine zAI rfl ?_|refine zAJ rfl ?_|apply zAK|apply eb_n
 all_goals first|omega|skip
 all_goals exact zBO rfl rfl
theorem zGz(m:Img)(r r':Raw)(hI:zAU prog 95 [.ptr 0 0] (MX m r) .top (MX m r')): zAU prog 48 [.ptr 0 0,.d (i64 7)] (MX m r) .top (MX m r'):=by
 refine zA7 func48 rfl ntmps48 results48 rfl ?_
 intro wb St0 X fx
 repeat' first|apply en_n|apply zAG|apply zAA|apply zAD|apply w0|exact zAi rfl rfl|exact zAn rfl rfl|(refine aVMc (fx:=fx) (k:=none) (m:=m) (r:=r) zNi hI (SArgs_all rfl) rfl rfl ?_)|refine aBox (hd:=rfl) (hro:=rfl) rfl rfl ?_|apply ay (hd:=rfl)|exact zAF rfl|exact zAB rfl|exact zAE rfl zCj rfl rfl|refine zAI rfl ?_|refine zAJ rfl ?_|apply zAK|apply eb_n
 all_goals first|omega|skip
 all_goals exact zBO rfl rfl
theorem zUL(m:Img)(r r':Raw)(hI:zAU prog 46 [.ptr 0 0,.d (i64 3),.d (i64 0),.d (i64 1)] (MX m r) .top (MX m r')): zAU prog 48 [.ptr 0 0,.d (i64 9)] (MX m r) .top (MX m r'):=by
 refine zA7 func48 rfl ntmps48 results48 rfl ?_
 intro wb St0 X fx
 repeat' first|apply en_n|apply zAG|apply zAA|apply zAD|apply w0|exact zAi rfl rfl|exact zAn rfl rfl|(refine aVMc (fx:=fx) (k:=none) (m:=m) (r:=r) zHX hI (SArgs_all rfl) rfl rfl ?_)|refine aBox (hd:=rfl) (hro:=rfl) rfl rfl ?_|apply ay (hd:=rfl)|exact zAF rfl|exact zAB rfl|exact zAE rfl zCj rfl rfl|refine zAI rfl ?_|refine zAJ rfl ?_|apply zAK|apply eb_n
 all_goals first|omega|skip
 all_goals exact zBO rfl rfl
theorem zNW(m:Img)(r r':Raw)(hI:zAU prog 97 [.ptr 0 0,.d (i64 8)] (MX m r) .top (MX m r')): zAU prog 48 [.ptr 0 0,.d (i64 8)] (MX m r) .top (MX m r'):=by
 refine zA7 func48 rfl ntmps48 results48 rfl ?_
 intro wb St0 X fx
 repeat' first|apply en_n|apply zAG|apply zAA|apply zAD|apply w0|exact zAn rfl rfl|(refine aVMc (fx:=fx) (k:=none) (m:=m) (r:=r) zGC hI (SArgs_all rfl) rfl rfl ?_)|refine aBox (hd:=rfl) (hro:=rfl) rfl rfl ?_|apply ay (hd:=rfl)|exact zAF rfl|exact zAB rfl|exact zAE rfl zCj rfl rfl|refine zAJ rfl ?_|apply zAK|apply eb_n
 all_goals first|omega|skip
 all_goals exact zBO rfl rfl
theorem zMI(m:Img)(r r':Raw)(hI:zAU prog 97 [.ptr 0 0,.d (i64 10)] (MX m r) .top (MX m r')): zAU prog 48 [.ptr 0 0,.d (i64 10)] (MX m r) .top (MX m r'):=by
 refine zA7 func48 rfl ntmps48 results48 rfl ?_
 intro wb St0 X fx
 repeat' first|apply en_n|apply zAG|apply zAA|apply zAD|apply w0|exact zAn rfl rfl|(refine aVMc (fx:=fx) (k:=none) (m:=m) (r:=r) zGC hI (SArgs_all rfl) rfl rfl ?_)|refine aBox (hd:=rfl) (hro:=rfl) rfl rfl ?_|apply ay (hd:=rfl)|exact zAF rfl|exact zAB rfl|exact zAE rfl zCj rfl rfl|refine zAJ rfl ?_|apply zAK|apply eb_n
 all_goals first|omega|skip
 all_goals exact zBO rfl rfl
theorem zMH(m:Img)(r r':Raw)(hI:zAU prog 97 [.ptr 0 0,.d (i64 11)] (MX m r) .top (MX m r')): zAU prog 48 [.ptr 0 0,.d (i64 11)] (MX m r) .top (MX m r'):=by
 refine zA7 func48 rfl ntmps48 results48 rfl ?_
 intro wb St0 X fx
 repeat' first|apply en_n|apply zAG|apply zAA|apply zAD|apply w0|exact zAn rfl rfl|(refine aVMc (fx:=fx) (k:=none) (m:=m) (r:=r) zGC hI (SArgs_all rfl) rfl rfl ?_)|refine aBox (hd:=rfl) (hro:=rfl) rfl rfl ?_|apply ay (hd:=rfl)|exact zAF rfl|exact zAB rfl|exact zAE rfl zCj rfl rfl|refine zAJ rfl ?_|apply zAK|apply eb_n
 all_goals first|omega|skip
 all_goals exact zBO rfl rfl
theorem zMG(m:Img)(r r':Raw)(hI:zAU prog 97 [.ptr 0 0,.d (i64 13)] (MX m r) .top (MX m r')): zAU prog 48 [.ptr 0 0,.d (i64 13)] (MX m r) .top (MX m r'):=by
 refine zA7 func48 rfl ntmps48 results48 rfl ?_
 intro wb St0 X fx
 repeat' first|apply en_n|apply zAG|apply zAA|apply zAD|apply w0|exact zAn rfl rfl|(refine aVMc (fx:=fx) (k:=none) (m:=m) (r:=r) zGC hI (SArgs_all rfl) rfl rfl ?_)|refine aBox (hd:=rfl) (hro:=rfl) rfl rfl ?_|apply ay (hd:=rfl)|exact zAF rfl|exact zAB rfl|exact zAE rfl zCj rfl rfl|refine zAJ rfl ?_|apply zAK|apply eb_n
 all_goals first|omega|skip
 all_goals exact zBO rfl rfl
theorem zMF(m:Img)(r:Raw){u:Nat}(ht:Arg r 1 u)(h1:zAg prog 54 [w64 u] (.tup [i64 0,bl false])): zAU prog 48 [.ptr 0 0,.d (i64 12)] (MX m r) .top (MX m { r with fin:=4 }):=by
 obtain⟨hn,_,hu,hl⟩:=ht
 have hT:=zB4 m r (k:=0) (by omega) hu hl
 have hN:=zFu m r h1
 refine zA7 func48 rfl ntmps48 results48 rfl ?_
 intro wb St0 X fx
 repeat' first|apply en_n|apply zAG|apply zAA|apply zAD|apply w0|exact zAi rfl rfl|exact zAn rfl rfl|(refine zAX ids9 [] rfl rfl zAw (hT) rfl (SArgs_all rfl) rfl (by decide) rfl rfl rfl rfl)|(refine zBs (by kernel_rfl) ?_;refine aVMc (fx:=fx) (k:=none) (m:=m) (r:=r) zCS hN (SArgs_all rfl) rfl rfl ?_)|refine aBox (hd:=rfl) (hro:=rfl) rfl rfl ?_|apply ay (hd:=rfl)|exact zAF rfl|exact zAB rfl|exact zAk rfl rfl|exact zAE rfl zCj rfl rfl|refine zAI rfl ?_|refine zAJ rfl ?_|apply zAK|apply zAR|refine zAf (by kernel_rfl) (by kernel_rfl) ?_|apply eb_n
 all_goals first|omega|skip
 all_goals exact zBO rfl rfl
theorem zRU(m:Img)(r:Raw){u:Nat}{a:Int}(ht:Arg r 1 u)(h1:zAg prog 54 [w64 u] (.tup [i64 a,bl true]))(ho:r.out.length<=1048576): zAU prog 48 [.ptr 0 0,.d (i64 12)] (MX m r) .top (MX m { r with out:=r.out++[shw (W a)] }):=by
 obtain⟨hn,_,hu,hl⟩:=ht
 have hT:=zB4 m r (k:=0) (by omega) hu hl
 have hN:=zES m r h1
 refine zA7 func48 rfl ntmps48 results48 rfl ?_
 intro wb St0 X fx
 repeat' first|(refine zKA (rid:=24) [.ptr 0 0,.ptr 0 0,.ptr 0 0,.ptr 0 (0+9),.ptr 0 (0+9+3),.buf 8 r.out.length,.d (i64 a),.d (str (shw (W a))),.d (.slice [str (shw (W a))]),.top] 9 8 (by kernel_rfl) (by kernel_rfl) rfl rfl rfl (.inr (by kernel_rfl)) ⟨.inr ⟨⟨rfl,zAE rfl zCj rfl rfl⟩,rfl,rfl,.inr ⟨rfl,rfl,zAE rfl zCj rfl rfl⟩⟩,⟨.inr ⟨⟨rfl,zAE rfl zCj rfl rfl⟩,rfl,rfl,.inl (by kernel_rfl)⟩,⟨.inr ⟨⟨rfl,zAL rfl⟩,rfl,rfl,.inl (by kernel_rfl)⟩,⟨.inr ⟨⟨rfl,zAC rfl zCB⟩,rfl,rfl,.inl (by kernel_rfl)⟩,⟨.inr ⟨⟨rfl,zAC rfl zJR⟩,rfl,rfl,.inl (by kernel_rfl)⟩,⟨.inr ⟨⟨rfl,zAE rfl zIH rfl rfl⟩,rfl,rfl,.inl (by kernel_rfl)⟩,⟨.inr ⟨⟨rfl,zAF rfl⟩,rfl,rfl,.inl (by kernel_rfl)⟩,⟨.inr ⟨⟨rfl,zAd zUs (zTN _) (zAY rfl zAM)⟩,rfl,rfl,.inl (by kernel_rfl)⟩,⟨.inr ⟨⟨rfl,zCC zG7 zGe zN4 rfl rfl (zAY rfl zAM) rfl⟩,rfl,rfl,.inl (by kernel_rfl)⟩,⟨.inl rfl,trivial⟩⟩⟩⟩⟩⟩⟩⟩⟩⟩ rfl rfl rfl (qAC _).symm rfl zG7 zGe zVa zSb rfl rfl (zDS rfl) (by simp only[qAP,qAp];omega) ?_)|apply en_n|apply zAG|apply zAA|apply zAD|apply w0|(refine zBs (by kernel_rfl) ?_;apply zAj;exact rfl;exact rfl;exact rfl;(with_reducible exact zIH);exact rfl;exact rfl;exact rfl;exact rfl)|exact zAi rfl rfl|exact zAn rfl rfl|exact zAL rfl|(refine zAX ids9 [] rfl rfl zAw (hT) rfl (SArgs_all rfl) rfl (by decide) rfl rfl rfl rfl)|(refine zAX ids9 [] rfl rfl zCS (hN) rfl (SArgs_all rfl) rfl (by decide) rfl rfl rfl rfl)|refine aBox (hd:=rfl) (hro:=rfl) rfl rfl ?_|apply ay (hd:=rfl)|exact zAF rfl|exact zAB rfl|exact zAk rfl rfl|(apply zAC;exact rfl;(with_reducible first|exact zJR|exact zCB))|exact zAE rfl zCj rfl rfl|(refine w0' ?_)|refine zAI rfl ?_|refine zAJ rfl ?_|apply zAK|refine zAf (by kernel_rfl) (by kernel_rfl) ?_|apply eb_n
 all_goals first|omega|skip
 all_goals exact zCl ⟨rfl,zAS Le_nil (zEp rfl rfl rfl rfl rfl qAD rfl rfl rfl rfl rfl rfl (zBf rfl) (zBf rfl) (zBf rfl) (congrArg (Ob.buf true _ 1) (zQz r.out _).symm)) rfl rfl⟩
end Go.Proofs.YtcagoomibpcdlaaGreatDoor
