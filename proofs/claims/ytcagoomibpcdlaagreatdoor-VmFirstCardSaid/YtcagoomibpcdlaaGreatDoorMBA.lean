/- Parts of the proof. -/
import Derived.Test.YtcagoomibpcdlaaGreatDoorMAZ
set_option maxHeartbeats 16000000
namespace Go.Proofs.YtcagoomibpcdlaaGreatDoor
open _root_.Go.Proofs.Tryz
open Go.Sx Go.Vm
attribute [local irreducible] zAN Program.underlying Ylds zA9 alex zB3 zBf awp zAi zCC zCB zAU zBl zAz zBq zBj zBB zBr zB2 zB8 zBi zBd zBg
theorem zQt(m:Img)(r r':Raw)(hI:zAU prog 79 [.ptr 0 0,.clo 80 [9]] (MXb m r) .top (MXb m r')): zAU prog 48 [.ptr 0 0,.d (i64 0)] (MX m r) .top (MX m r'):=by
 refine zAx func48 rfl ntmps48 results48 rfl ?_
 intro wb St0 X fx
 repeat' first|apply en_n|apply zAH|apply zAA|apply zAD|apply w0|exact zAk rfl rfl|(refine aVMi (fx:=fx) (k:=none) (m:=m) (r:=r) zEN hI (SArgs_all rfl) rfl rfl ?_)|(apply aBox (hd:=rfl) (hro:=rfl);exact rfl;exact rfl)|apply ay (hd:=rfl)|exact zAF rfl|exact zAB rfl|exact zAE rfl zCh rfl rfl|exact zJ3 rfl|refine zAI rfl ?_|apply zAL|apply eb_n
 all_goals first|omega|skip
 all_goals exact zBK rfl rfl
theorem zQs(m:Img)(r r':Raw)(hI:zAU prog 79 [.ptr 0 0,.clo 83 [9]] (MXb m r) .top (MXb m r')): zAU prog 48 [.ptr 0 0,.d (i64 1)] (MX m r) .top (MX m r'):=by
 refine zAx func48 rfl ntmps48 results48 rfl ?_
 intro wb St0 X fx
 repeat' first|apply en_n|apply zAH|apply zAA|apply zAD|apply w0|exact zAk rfl rfl|exact zAm rfl rfl|(refine aVMi (fx:=fx) (k:=none) (m:=m) (r:=r) zEN hI (SArgs_all rfl) rfl rfl ?_)|(apply aBox (hd:=rfl) (hro:=rfl);exact rfl;exact rfl)|apply ay (hd:=rfl)|exact zAF rfl|exact zAB rfl|exact zAE rfl zCh rfl rfl|exact zJ3 rfl|refine zAI rfl ?_|refine zAJ rfl ?_|apply zAL|apply eb_n
 all_goals first|omega|skip
 all_goals exact zBK rfl rfl
theorem zQr(m:Img)(r r':Raw)(hI:zAU prog 79 [.ptr 0 0,.clo 85 [9]] (MXb m r) .top (MXb m r')): zAU prog 48 [.ptr 0 0,.d (i64 2)] (MX m r) .top (MX m r'):=by
 refine zAx func48 rfl ntmps48 results48 rfl ?_
 intro wb St0 X fx
 repeat' first|apply en_n|apply zAH|apply zAA|apply zAD|apply w0|exact zAk rfl rfl|exact zAm rfl rfl|(refine aVMi (fx:=fx) (k:=none) (m:=m) (r:=r) zEN hI (SArgs_all rfl) rfl rfl ?_)|(apply aBox (hd:=rfl) (hro:=rfl);exact rfl;exact rfl)|apply ay (hd:=rfl)|exact zAF rfl|exact zAB rfl|exact zAE rfl zCh rfl rfl|exact zJ3 rfl|refine zAI rfl ?_|refine zAJ rfl ?_|apply zAL|apply eb_n
 all_goals first|omega|skip
 all_goals exact zBK rfl rfl
theorem zQq(m:Img)(r r':Raw)(hI:zAU prog 79 [.ptr 0 0,.clo 87 [9]] (MXb m r) .top (MXb m r')): zAU prog 48 [.ptr 0 0,.d (i64 3)] (MX m r) .top (MX m r'):=by
 refine zAx func48 rfl ntmps48 results48 rfl ?_
 intro wb St0 X fx
 repeat' first|apply en_n|apply zAH|apply zAA|apply zAD|apply w0|exact zAk rfl rfl|exact zAm rfl rfl|(refine aVMi (fx:=fx) (k:=none) (m:=m) (r:=r) zEN hI (SArgs_all rfl) rfl rfl ?_)|(apply aBox (hd:=rfl) (hro:=rfl);exact rfl;exact rfl)|apply ay (hd:=rfl)|exact zAF rfl|exact zAB rfl|exact zAE rfl zCh rfl rfl|exact zJ3 rfl|refine zAI rfl ?_|refine zAJ rfl ?_|apply zAL|apply eb_n
 all_goals first|omega|skip
 all_goals exact zBK rfl rfl
theorem zQp(m:Img)(r r':Raw)(hI:zAU prog 79 [.ptr 0 0,.clo 90 [9]] (MXb m r) .top (MXb m r')): zAU prog 48 [.ptr 0 0,.d (i64 4)] (MX m r) .top (MX m r'):=by
 refine zAx func48 rfl ntmps48 results48 rfl ?_
 intro wb St0 X fx
 repeat' first|apply en_n|apply zAH|apply zAA|apply zAD|apply w0|exact zAk rfl rfl|exact zAm rfl rfl|(refine aVMi (fx:=fx) (k:=none) (m:=m) (r:=r) zEN hI (SArgs_all rfl) rfl rfl ?_)|(apply aBox (hd:=rfl) (hro:=rfl);exact rfl;exact rfl)|apply ay (hd:=rfl)|exact zAF rfl|exact zAB rfl|exact zAE rfl zCh rfl rfl|exact zJ3 rfl|refine zAI rfl ?_|refine zAJ rfl ?_|apply zAL|apply eb_n
 all_goals first|omega|skip
 all_goals exact zBK rfl rfl
theorem zQo(m:Img)(r r':Raw)(hI:zAU prog 79 [.ptr 0 0,.clo 92 [9]] (MXb m r) .top (MXb m r')): zAU prog 48 [.ptr 0 0,.d (i64 5)] (MX m r) .top (MX m r'):=by
 refine zAx func48 rfl ntmps48 results48 rfl ?_
 intro wb St0 X fx
 repeat' first|apply en_n|apply zAH|apply zAA|apply zAD|apply w0|exact zAk rfl rfl|exact zAm rfl rfl|(refine aVMi (fx:=fx) (k:=none) (m:=m) (r:=r) zEN hI (SArgs_all rfl) rfl rfl ?_)|(apply aBox (hd:=rfl) (hro:=rfl);exact rfl;exact rfl)|apply ay (hd:=rfl)|exact zAF rfl|exact zAB rfl|exact zAE rfl zCh rfl rfl|exact zJ3 rfl|refine zAI rfl ?_|refine zAJ rfl ?_|apply zAL|apply eb_n
 all_goals first|omega|skip
 all_goals exact zBK rfl rfl
theorem zQn(m:Img)(r r':Raw)(hI:zAU prog 79 [.ptr 0 0,.clo 94 [9]] (MXb m r) .top (MXb m r')): zAU prog 48 [.ptr 0 0,.d (i64 6)] (MX m r) .top (MX m r'):=by
 refine zAx func48 rfl ntmps48 results48 rfl ?_
 intro wb St0 X fx
 repeat' first|apply en_n|apply zAH|apply zAA|apply zAD|apply w0|exact zAk rfl rfl|exact zAm rfl rfl|(refine aVMi (fx:=fx) (k:=none) (m:=m) (r:=r) zEN hI (SArgs_all rfl) rfl rfl ?_)|(apply aBox (hd:=rfl) (hro:=rfl);exact rfl;exact rfl)|apply ay (hd:=rfl)|exact zAF rfl|exact zAB rfl|exact zAE rfl zCh rfl rfl|exact zJ3 rfl|refine zAI rfl ?_|refine zAJ rfl ?_|apply zAL|apply eb_n
 all_goals first|omega|skip
 all_goals exact zBK rfl rfl
theorem zGt(m:Img)(r r':Raw)(hI:zAU prog 95 [.ptr 0 0] (MX m r) .top (MX m r')): zAU prog 48 [.ptr 0 0,.d (i64 7)] (MX m r) .top (MX m r'):=by
 refine zAx func48 rfl ntmps48 results48 rfl ?_
 intro wb St0 X fx
 repeat' first|apply en_n|apply zAH|apply zAA|apply zAD|apply w0|exact zAk rfl rfl|exact zAm rfl rfl|(refine aVMc (fx:=fx) (k:=none) (m:=m) (r:=r) zNA hI (SArgs_all rfl) rfl rfl ?_)|(apply aBox (hd:=rfl) (hro:=rfl);exact rfl;exact rfl)|apply ay (hd:=rfl)|exact zAF rfl|exact zAB rfl|exact zAE rfl zCh rfl rfl|refine zAI rfl ?_|refine zAJ rfl ?_|apply zAL|apply eb_n
 all_goals first|omega|skip
 all_goals exact zBK rfl rfl
theorem zTb(m:Img)(r r':Raw)(hI:zAU prog 46 [.ptr 0 0,.d (i64 3),.d (i64 0),.d (i64 1)] (MX m r) .top (MX m r')): zAU prog 48 [.ptr 0 0,.d (i64 9)] (MX m r) .top (MX m r'):=by
 refine zAx func48 rfl ntmps48 results48 rfl ?_
 intro wb St0 X fx
 repeat' first|apply en_n|apply zAH|apply zAA|apply zAD|apply w0|exact zAk rfl rfl|exact zAm rfl rfl|(refine aVMc (fx:=fx) (k:=none) (m:=m) (r:=r) zHL hI (SArgs_all rfl) rfl rfl ?_)|(apply aBox (hd:=rfl) (hro:=rfl);exact rfl;exact rfl)|apply ay (hd:=rfl)|exact zAF rfl|exact zAB rfl|exact zAE rfl zCh rfl rfl|refine zAI rfl ?_|refine zAJ rfl ?_|apply zAL|apply eb_n
 all_goals first|omega|skip
 all_goals exact zBK rfl rfl
theorem zMx(m:Img)(r r':Raw)(hI:zAU prog 97 [.ptr 0 0,.d (i64 8)] (MX m r) .top (MX m r')): zAU prog 48 [.ptr 0 0,.d (i64 8)] (MX m r) .top (MX m r'):=by
 refine zAx func48 rfl ntmps48 results48 rfl ?_
 intro wb St0 X fx
 repeat' first|apply en_n|apply zAH|apply zAA|apply zAD|apply w0|exact zAm rfl rfl|(refine aVMc (fx:=fx) (k:=none) (m:=m) (r:=r) zF7 hI (SArgs_all rfl) rfl rfl ?_)|(apply aBox (hd:=rfl) (hro:=rfl);exact rfl;exact rfl)|apply ay (hd:=rfl)|exact zAF rfl|exact zAB rfl|exact zAE rfl zCh rfl rfl|refine zAJ rfl ?_|apply zAL|apply eb_n
 all_goals first|omega|skip
 all_goals exact zBK rfl rfl
theorem zLj(m:Img)(r r':Raw)(hI:zAU prog 97 [.ptr 0 0,.d (i64 10)] (MX m r) .top (MX m r')): zAU prog 48 [.ptr 0 0,.d (i64 10)] (MX m r) .top (MX m r'):=by
 refine zAx func48 rfl ntmps48 results48 rfl ?_
 intro wb St0 X fx
 repeat' first|apply en_n|apply zAH|apply zAA|apply zAD|apply w0|exact zAm rfl rfl|(refine aVMc (fx:=fx) (k:=none) (m:=m) (r:=r) zF7 hI (SArgs_all rfl) rfl rfl ?_)|(apply aBox (hd:=rfl) (hro:=rfl);exact rfl;exact rfl)|apply ay (hd:=rfl)|exact zAF rfl|exact zAB rfl|exact zAE rfl zCh rfl rfl|refine zAJ rfl ?_|apply zAL|apply eb_n
 all_goals first|omega|skip
 all_goals exact zBK rfl rfl
theorem zLi(m:Img)(r r':Raw)(hI:zAU prog 97 [.ptr 0 0,.d (i64 11)] (MX m r) .top (MX m r')): zAU prog 48 [.ptr 0 0,.d (i64 11)] (MX m r) .top (MX m r'):=by
 refine zAx func48 rfl ntmps48 results48 rfl ?_
 intro wb St0 X fx
 repeat' first|apply en_n|apply zAH|apply zAA|apply zAD|apply w0|exact zAm rfl rfl|(refine aVMc (fx:=fx) (k:=none) (m:=m) (r:=r) zF7 hI (SArgs_all rfl) rfl rfl ?_)|(apply aBox (hd:=rfl) (hro:=rfl);exact rfl;exact rfl)|apply ay (hd:=rfl)|exact zAF rfl|exact zAB rfl|exact zAE rfl zCh rfl rfl|refine zAJ rfl ?_|apply zAL|apply eb_n
 all_goals first|omega|skip
 all_goals exact zBK rfl rfl
theorem zLh(m:Img)(r r':Raw)(hI:zAU prog 97 [.ptr 0 0,.d (i64 13)] (MX m r) .top (MX m r')): zAU prog 48 [.ptr 0 0,.d (i64 13)] (MX m r) .top (MX m r'):=by
 refine zAx func48 rfl ntmps48 results48 rfl ?_
 intro wb St0 X fx
 repeat' first|apply en_n|apply zAH|apply zAA|apply zAD|apply w0|exact zAm rfl rfl|(refine aVMc (fx:=fx) (k:=none) (m:=m) (r:=r) zF7 hI (SArgs_all rfl) rfl rfl ?_)|(apply aBox (hd:=rfl) (hro:=rfl);exact rfl;exact rfl)|apply ay (hd:=rfl)|exact zAF rfl|exact zAB rfl|exact zAE rfl zCh rfl rfl|refine zAJ rfl ?_|apply zAL|apply eb_n
 all_goals first|omega|skip
 all_goals exact zBK rfl rfl
theorem zLg(m:Img)(r:Raw){u:Nat}(ht:Arg r 1 u)(h1:zAi prog 54 [w64 u] (.tup [i64 0,bl false])): zAU prog 48 [.ptr 0 0,.d (i64 12)] (MX m r) .top (MX m { r with fin:=4 }):=by
 obtain⟨hn,_,hu,hl⟩:=ht
 have hT:=zBt m r (k:=0) (by omega) hu hl
 have hN:=zFo m r h1
 refine zAx func48 rfl ntmps48 results48 rfl ?_
 intro wb St0 X fx
 repeat' first|apply en_n|apply zAH|apply zAA|apply zAD|apply w0|exact zAk rfl rfl|exact zAm rfl rfl|(refine zAW ids9 [] rfl rfl zAr (hT) rfl (SArgs_all rfl) rfl (by decide) rfl rfl rfl rfl)|(refine zBv (by kernel_rfl) ?_;refine aVMc (fx:=fx) (k:=none) (m:=m) (r:=r) zCN hN (SArgs_all rfl) rfl rfl ?_)|(apply aBox (hd:=rfl) (hro:=rfl);exact rfl;exact rfl)|apply ay (hd:=rfl)|exact zAF rfl|exact zAB rfl|exact zAg rfl rfl|exact zAE rfl zCh rfl rfl|refine zAI rfl ?_|refine zAJ rfl ?_|apply zAL|apply zAS|refine zAj (by kernel_rfl) (by kernel_rfl) ?_|apply eb_n
 all_goals first|omega|skip
 all_goals exact zBK rfl rfl
theorem zQl(m:Img)(r:Raw){u:Nat}{a:Int}(ht:Arg r 1 u)(h1:zAi prog 54 [w64 u] (.tup [i64 a,bl true]))(ho:r.out.length<=1048576): zAU prog 48 [.ptr 0 0,.d (i64 12)] (MX m r) .top (MX m { r with out:=r.out++[shw (W a)] }):=by
 obtain⟨hn,_,hu,hl⟩:=ht
 have hT:=zBt m r (k:=0) (by omega) hu hl
 have hN:=zEL m r h1
 refine zAx func48 rfl ntmps48 results48 rfl ?_
 intro wb St0 X fx
 repeat' first|(refine zJh (rid:=24) [.ptr 0 0,.ptr 0 0,.ptr 0 0,.ptr 0 (0+9),.ptr 0 (0+9+3),.buf 8 r.out.length,.d (i64 a),.d (str (shw (W a))),.d (.slice [str (shw (W a))]),.top] 9 8 (by kernel_rfl) (by kernel_rfl) rfl rfl rfl (.inr (by kernel_rfl)) ⟨.inr ⟨⟨rfl,zAE rfl zCh rfl rfl⟩,rfl,rfl,.inr ⟨rfl,rfl,zAE rfl zCh rfl rfl⟩⟩,⟨.inr ⟨⟨rfl,zAE rfl zCh rfl rfl⟩,rfl,rfl,.inl (by kernel_rfl)⟩,⟨.inr ⟨⟨rfl,zAK rfl⟩,rfl,rfl,.inl (by kernel_rfl)⟩,⟨.inr ⟨⟨rfl,zAC rfl zB1⟩,rfl,rfl,.inl (by kernel_rfl)⟩,⟨.inr ⟨⟨rfl,zAC rfl zGO⟩,rfl,rfl,.inl (by kernel_rfl)⟩,⟨.inr ⟨⟨rfl,zAE rfl zFa rfl rfl⟩,rfl,rfl,.inl (by kernel_rfl)⟩,⟨.inr ⟨⟨rfl,zAF rfl⟩,rfl,rfl,.inl (by kernel_rfl)⟩,⟨.inr ⟨⟨rfl,zAb zT8 (zSc _) (zAY rfl zAM)⟩,rfl,rfl,.inl (by kernel_rfl)⟩,⟨.inr ⟨⟨rfl,zCI zHr zFg zPy rfl rfl (zAY rfl zAM) rfl⟩,rfl,rfl,.inl (by kernel_rfl)⟩,⟨.inl rfl,trivial⟩⟩⟩⟩⟩⟩⟩⟩⟩⟩ rfl rfl rfl (qAC _).symm rfl zHr zFg zUt zRn rfl rfl (zEA rfl) (by simp only[qAS,qAv];omega) ?_)|apply en_n|apply zAH|apply zAA|apply zAD|apply w0|(refine zBv (by kernel_rfl) ?_;apply zAh;exact rfl;exact rfl;exact rfl;(with_reducible exact zFa);exact rfl;exact rfl;exact rfl;exact rfl)|exact zAk rfl rfl|exact zAm rfl rfl|exact zAK rfl|(refine zAW ids9 [] rfl rfl zAr (hT) rfl (SArgs_all rfl) rfl (by decide) rfl rfl rfl rfl)|(refine zAW ids9 [] rfl rfl zCN (hN) rfl (SArgs_all rfl) rfl (by decide) rfl rfl rfl rfl)|(apply aBox (hd:=rfl) (hro:=rfl);exact rfl;exact rfl)|apply ay (hd:=rfl)|exact zAF rfl|exact zAB rfl|exact zAg rfl rfl|(apply zAC;exact rfl;(with_reducible first|exact zGO|exact zB1))|exact zAE rfl zCh rfl rfl|(refine w0' ?_)|refine zAI rfl ?_|refine zAJ rfl ?_|apply zAL|refine zAj (by kernel_rfl) (by kernel_rfl) ?_|apply eb_n
 all_goals first|omega|skip
 all_goals exact zCj ⟨rfl,zAT Le_nil (zEi rfl rfl rfl rfl rfl qAE rfl rfl rfl rfl rfl rfl (zBU rfl) (zBU rfl) (zBU rfl) (congrArg (Ob.buf true _ 1) (zQJ r.out _).symm)) rfl rfl⟩
end Go.Proofs.YtcagoomibpcdlaaGreatDoor
