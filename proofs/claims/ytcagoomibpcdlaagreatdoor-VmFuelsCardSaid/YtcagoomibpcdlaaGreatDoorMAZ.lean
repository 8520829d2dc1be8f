/- Texts of this claim, merged: VmBN. -/
import Derived.Test.YtcagoomibpcdlaaGreatDoorMAY
namespace Go.Proofs.YtcagoomibpcdlaaGreatDoor
open Go.Sx Go.Vm
attribute [local irreducible] zAQ Program.underlying Ylds zBD alex zCA zBi awp zAp zCI zCH zAW zBw zA5 zB0 zBp zBF zBv zB9 zCE zBn zBm zBs
theorem zQH(m:Img)(r r':Raw)(hI:zAW Tryz.prog 79 [.ptr 0 0,.clo 80 [9]] (MXb m r) .top (MXb m r')): zAW Tryz.prog 48 [.ptr 0 0,.d (i64 0)] (MX m r) .top (MX m r'):=by
 refine zAy Tryz.func48 rfl Tryz.ntmps48 Tryz.results48 rfl ?_
 intro wb St0 X fx
 repeat' first|apply en_n|apply zAK|apply zAA|apply zAF|apply w0|(apply zAn;exact rfl;exact rfl;first|assumption|omega)|(refine aVMi (fx:=fx) (k:=none) (m:=m) (r:=r) zEC hI ?_ rfl rfl ?_;(repeat (refine zAB rfl ?_));exact zAE)|(apply aBox (hd:=rfl) (hro:=rfl);exact rfl;exact rfl)|apply ay (hd:=rfl)|exact zAJ rfl|exact zAD rfl|(apply zAG;exact rfl;(with_reducible exact zCb);exact rfl;exact rfl)|exact zJh rfl|(apply zAL;exact rfl)|apply zAO|apply eb_n
 all_goals first|omega|skip
 all_goals exact zBM rfl rfl
theorem zQG(m:Img)(r r':Raw)(hI:zAW Tryz.prog 79 [.ptr 0 0,.clo 83 [9]] (MXb m r) .top (MXb m r')): zAW Tryz.prog 48 [.ptr 0 0,.d (i64 1)] (MX m r) .top (MX m r'):=by
 refine zAy Tryz.func48 rfl Tryz.ntmps48 Tryz.results48 rfl ?_
 intro wb St0 X fx
 repeat' first|apply en_n|apply zAK|apply zAA|apply zAF|apply w0|(apply zAn;exact rfl;exact rfl;first|assumption|omega)|(apply zAs;exact rfl;exact rfl;first|assumption|omega)|(refine aVMi (fx:=fx) (k:=none) (m:=m) (r:=r) zEC hI ?_ rfl rfl ?_;(repeat (refine zAB rfl ?_));exact zAE)|(apply aBox (hd:=rfl) (hro:=rfl);exact rfl;exact rfl)|apply ay (hd:=rfl)|exact zAJ rfl|exact zAD rfl|(apply zAG;exact rfl;(with_reducible exact zCb);exact rfl;exact rfl)|exact zJh rfl|(apply zAL;exact rfl)|(apply zAM;exact rfl)|apply zAO|apply eb_n
 all_goals first|omega|skip
 all_goals exact zBM rfl rfl
theorem zQF(m:Img)(r r':Raw)(hI:zAW Tryz.prog 79 [.ptr 0 0,.clo 85 [9]] (MXb m r) .top (MXb m r')): zAW Tryz.prog 48 [.ptr 0 0,.d (i64 2)] (MX m r) .top (MX m r'):=by
 refine zAy Tryz.func48 rfl Tryz.ntmps48 Tryz.results48 rfl ?_
 intro wb St0 X fx
 repeat' first|apply en_n|apply zAK|apply zAA|apply zAF|apply w0|(apply zAn;exact rfl;exact rfl;first|assumption|omega)|(apply zAs;exact rfl;exact rfl;first|assumption|omega)|(refine aVMi (fx:=fx) (k:=none) (m:=m) (r:=r) zEC hI ?_ rfl rfl ?_;(repeat (refine zAB rfl ?_));exact zAE)|(apply aBox (hd:=rfl) (hro:=rfl);exact rfl;exact rfl)|apply ay (hd:=rfl)|exact zAJ rfl|exact zAD rfl|(apply zAG;exact rfl;(with_reducible exact zCb);exact rfl;exact rfl)|exact zJh rfl|(apply zAL;exact rfl)|(apply zAM;exact rfl)|apply zAO|apply eb_n
 all_goals first|omega|skip
 all_goals exact zBM rfl rfl
theorem zQE(m:Img)(r r':Raw)(hI:zAW Tryz.prog 79 [.ptr 0 0,.clo 87 [9]] (MXb m r) .top (MXb m r')): zAW Tryz.prog 48 [.ptr 0 0,.d (i64 3)] (MX m r) .top (MX m r'):=by
 refine zAy Tryz.func48 rfl Tryz.ntmps48 Tryz.results48 rfl ?_
 intro wb St0 X fx
 repeat' first|apply en_n|apply zAK|apply zAA|apply zAF|apply w0|(apply zAn;exact rfl;exact rfl;first|assumption|omega)|(apply zAs;exact rfl;exact rfl;first|assumption|omega)|(refine aVMi (fx:=fx) (k:=none) (m:=m) (r:=r) zEC hI ?_ rfl rfl ?_;(repeat (refine zAB rfl ?_));exact zAE)|(apply aBox (hd:=rfl) (hro:=rfl);exact rfl;exact rfl)|apply ay (hd:=rfl)|exact zAJ rfl|exact zAD rfl|(apply zAG;exact rfl;(with_reducible exact zCb);exact rfl;exact rfl)|exact zJh rfl|(apply zAL;exact rfl)|(apply zAM;exact rfl)|apply zAO|apply eb_n
 all_goals first|omega|skip
 all_goals exact zBM rfl rfl
theorem zQD(m:Img)(r r':Raw)(hI:zAW Tryz.prog 79 [.ptr 0 0,.clo 90 [9]] (MXb m r) .top (MXb m r')): zAW Tryz.prog 48 [.ptr 0 0,.d (i64 4)] (MX m r) .top (MX m r'):=by
 refine zAy Tryz.func48 rfl Tryz.ntmps48 Tryz.results48 rfl ?_
 intro wb St0 X fx
 repeat' first|apply en_n|apply zAK|apply zAA|apply zAF|apply w0|(apply zAn;exact rfl;exact rfl;first|assumption|omega)|(apply zAs;exact rfl;exact rfl;first|assumption|omega)|(refine aVMi (fx:=fx) (k:=none) (m:=m) (r:=r) zEC hI ?_ rfl rfl ?_;(repeat (refine zAB rfl ?_));exact zAE)|(apply aBox (hd:=rfl) (hro:=rfl);exact rfl;exact rfl)|apply ay (hd:=rfl)|exact zAJ rfl|exact zAD rfl|(apply zAG;exact rfl;(with_reducible exact zCb);exact rfl;exact rfl)|exact zJh rfl|(apply zAL;exact rfl)|(apply zAM;exact rfl)|apply zAO|apply eb_n
 all_goals first|omega|skip
 all_goals exact zBM rfl rfl
theorem zQC(m:Img)(r r':Raw)(hI:zAW Tryz.prog 79 [.ptr 0 0,.clo 92 [9]] (MXb m r) .top (MXb m r')): zAW Tryz.prog 48 [.ptr 0 0,.d (i64 5)] (MX m r) .top (MX m r'):=by
 refine zAy Tryz.func48 rfl Tryz.ntmps48 Tryz.results48 rfl ?_
 intro wb St0 X fx
 repeat' first|apply en_n|apply zAK|apply zAA|apply zAF|apply w0|(apply zAn;exact rfl;exact rfl;first|assumption|omega)|(apply zAs;exact rfl;exact rfl;first|assumption|omega)|(refine aVMi (fx:=fx) (k:=none) (m:=m) (r:=r) zEC hI ?_ rfl rfl ?_;(repeat (refine zAB rfl ?_));exact zAE)|(apply aBox (hd:=rfl) (hro:=rfl);exact rfl;exact rfl)|apply ay (hd:=rfl)|exact zAJ rfl|exact zAD rfl|(apply zAG;exact rfl;(with_reducible exact zCb);exact rfl;exact rfl)|exact zJh rfl|(apply zAL;exact rfl)|(apply zAM;exact rfl)|apply zAO|apply eb_n
 all_goals first|omega|skip
 all_goals exact zBM rfl rfl
theorem zQB(m:Img)(r r':Raw)(hI:zAW Tryz.prog 79 [.ptr 0 0,.clo 94 [9]] (MXb m r) .top (MXb m r')): zAW Tryz.prog 48 [.ptr 0 0,.d (i64 6)] (MX m r) .top (MX m r'):=by
 refine zAy Tryz.func48 rfl Tryz.ntmps48 Tryz.results48 rfl ?_
 intro wb St0 X fx
 repeat' first|apply en_n|apply zAK|apply zAA|apply zAF|apply w0|(apply zAn;exact rfl;exact rfl;first|assumption|omega)|(apply zAs;exact rfl;exact rfl;first|assumption|omega)|(refine aVMi (fx:=fx) (k:=none) (m:=m) (r:=r) zEC hI ?_ rfl rfl ?_;(repeat (refine zAB rfl ?_));exact zAE)|(apply aBox (hd:=rfl) (hro:=rfl);exact rfl;exact rfl)|apply ay (hd:=rfl)|exact zAJ rfl|exact zAD rfl|(apply zAG;exact rfl;(with_reducible exact zCb);exact rfl;exact rfl)|exact zJh rfl|(apply zAL;exact rfl)|(apply zAM;exact rfl)|apply zAO|apply eb_n
 all_goals first|omega|skip
 all_goals exact zBM rfl rfl
theorem zGa(m:Img)(r r':Raw)(hI:zAW Tryz.prog 95 [.ptr 0 0] (MX m r) .top (MX m r')): zAW Tryz.prog 48 [.ptr 0 0,.d (i64 7)] (MX m r) .top (MX m r'):=by
 refine zAy Tryz.func48 rfl Tryz.ntmps48 Tryz.results48 rfl ?_
 intro wb St0 X fx
 repeat' first|apply en_n|apply zAK|apply zAA|apply zAF|apply w0|(apply zAn;exact rfl;exact rfl;first|assumption|omega)|(apply zAs;exact rfl;exact rfl;first|assumption|omega)|(refine aVMc (fx:=fx) (k:=none) (m:=m) (r:=r) zMf hI ?_ rfl rfl ?_;(repeat (refine zAB rfl ?_));exact zAE)|(apply aBox (hd:=rfl) (hro:=rfl);exact rfl;exact rfl)|apply ay (hd:=rfl)|exact zAJ rfl|exact zAD rfl|(apply zAG;exact rfl;(with_reducible exact zCb);exact rfl;exact rfl)|(apply zAL;exact rfl)|(apply zAM;exact rfl)|apply zAO|apply eb_n
 all_goals first|omega|skip
 all_goals exact zBM rfl rfl
theorem zSv(m:Img)(r r':Raw)(hI:zAW Tryz.prog 46 [.ptr 0 0,.d (i64 3),.d (i64 0),.d (i64 1)] (MX m r) .top (MX m r')): zAW Tryz.prog 48 [.ptr 0 0,.d (i64 9)] (MX m r) .top (MX m r'):=by
 refine zAy Tryz.func48 rfl Tryz.ntmps48 Tryz.results48 rfl ?_
 intro wb St0 X fx
 repeat' first|apply en_n|apply zAK|apply zAA|apply zAF|apply w0|(apply zAn;exact rfl;exact rfl;first|assumption|omega)|(apply zAs;exact rfl;exact rfl;first|assumption|omega)|(refine aVMc (fx:=fx) (k:=none) (m:=m) (r:=r) zG6 hI ?_ rfl rfl ?_;(repeat (refine zAB rfl ?_));exact zAE)|(apply aBox (hd:=rfl) (hro:=rfl);exact rfl;exact rfl)|apply ay (hd:=rfl)|exact zAJ rfl|exact zAD rfl|(apply zAG;exact rfl;(with_reducible exact zCb);exact rfl;exact rfl)|(apply zAL;exact rfl)|(apply zAM;exact rfl)|apply zAO|apply eb_n
 all_goals first|omega|skip
 all_goals exact zBM rfl rfl
theorem zMT(m:Img)(r r':Raw)(hI:zAW Tryz.prog 97 [.ptr 0 0,.d (i64 8)] (MX m r) .top (MX m r')): zAW Tryz.prog 48 [.ptr 0 0,.d (i64 8)] (MX m r) .top (MX m r'):=by
 refine zAy Tryz.func48 rfl Tryz.ntmps48 Tryz.results48 rfl ?_
 intro wb St0 X fx
 repeat' first|apply en_n|apply zAK|apply zAA|apply zAF|apply w0|(apply zAs;exact rfl;exact rfl;first|assumption|omega)|(refine aVMc (fx:=fx) (k:=none) (m:=m) (r:=r) zFp hI ?_ rfl rfl ?_;(repeat (refine zAB rfl ?_));exact zAE)|(apply aBox (hd:=rfl) (hro:=rfl);exact rfl;exact rfl)|apply ay (hd:=rfl)|exact zAJ rfl|exact zAD rfl|(apply zAG;exact rfl;(with_reducible exact zCb);exact rfl;exact rfl)|(apply zAM;exact rfl)|apply zAO|apply eb_n
 all_goals first|omega|skip
 all_goals exact zBM rfl rfl
theorem zLH(m:Img)(r r':Raw)(hI:zAW Tryz.prog 97 [.ptr 0 0,.d (i64 10)] (MX m r) .top (MX m r')): zAW Tryz.prog 48 [.ptr 0 0,.d (i64 10)] (MX m r) .top (MX m r'):=by
 refine zAy Tryz.func48 rfl Tryz.ntmps48 Tryz.results48 rfl ?_
 intro wb St0 X fx
 repeat' first|apply en_n|apply zAK|apply zAA|apply zAF|apply w0|(apply zAs;exact rfl;exact rfl;first|assumption|omega)|(refine aVMc (fx:=fx) (k:=none) (m:=m) (r:=r) zFp hI ?_ rfl rfl ?_;(repeat (refine zAB rfl ?_));exact zAE)|(apply aBox (hd:=rfl) (hro:=rfl);exact rfl;exact rfl)|apply ay (hd:=rfl)|exact zAJ rfl|exact zAD rfl|(apply zAG;exact rfl;(with_reducible exact zCb);exact rfl;exact rfl)|(apply zAM;exact rfl)|apply zAO|apply eb_n
 all_goals first|omega|skip
 all_goals exact zBM rfl rfl
theorem zLG(m:Img)(r r':Raw)(hI:zAW Tryz.prog 97 [.ptr 0 0,.d (i64 11)] (MX m r) .top (MX m r')): zAW Tryz.prog 48 [.ptr 0 0,.d (i64 11)] (MX m r) .top (MX m r'):=by
 refine zAy Tryz.func48 rfl Tryz.ntmps48 Tryz.results48 rfl ?_
 intro wb St0 X fx
 repeat' first|apply en_n|apply zAK|apply zAA|apply zAF|apply w0|(apply zAs;exact rfl;exact rfl;first|assumption|omega)|(refine aVMc (fx:=fx) (k:=none) (m:=m) (r:=r) zFp hI ?_ rfl rfl ?_;(repeat (refine zAB rfl ?_));exact zAE)|(apply aBox (hd:=rfl) (hro:=rfl);exact rfl;exact rfl)|apply ay (hd:=rfl)|exact zAJ rfl|exact zAD rfl|(apply zAG;exact rfl;(with_reducible exact zCb);exact rfl;exact rfl)|(apply zAM;exact rfl)|apply zAO|apply eb_n
 all_goals first|omega|skip
 all_goals exact zBM rfl rfl
theorem zLF(m:Img)(r r':Raw)(hI:zAW Tryz.prog 97 [.ptr 0 0,.d (i64 13)] (MX m r) .top (MX m r')): zAW Tryz.prog 48 [.ptr 0 0,.d (i64 13)] (MX m r) .top (MX m r'):=by
 refine zAy Tryz.func48 rfl Tryz.ntmps48 Tryz.results48 rfl ?_
 intro wb St0 X fx
 repeat' first|apply en_n|apply zAK|apply zAA|apply zAF|apply w0|(apply zAs;exact rfl;exact rfl;first|assumption|omega)|(refine aVMc (fx:=fx) (k:=none) (m:=m) (r:=r) zFp hI ?_ rfl rfl ?_;(repeat (refine zAB rfl ?_));exact zAE)|(apply aBox (hd:=rfl) (hro:=rfl);exact rfl;exact rfl)|apply ay (hd:=rfl)|exact zAJ rfl|exact zAD rfl|(apply zAG;exact rfl;(with_reducible exact zCb);exact rfl;exact rfl)|(apply zAM;exact rfl)|apply zAO|apply eb_n
 all_goals first|omega|skip
 all_goals exact zBM rfl rfl
theorem zLE(m:Img)(r:Raw){u:Nat}(ht:Arg r 1 u)(h1:zAp Tryz.prog 54 [w64 u] (.tup [i64 0,bl false])): zAW Tryz.prog 48 [.ptr 0 0,.d (i64 12)] (MX m r) .top (MX m { r with fin:=4 }):=by
 obtain⟨hn,_,hu,hl⟩:=ht
 have hT:=zBl m r (k:=0) (by omega) hu hl
 have hN:=zFV m r h1
 refine zAy Tryz.func48 rfl Tryz.ntmps48 Tryz.results48 rfl ?_
 intro wb St0 X fx
 repeat' first|apply en_n|apply zAK|apply zAA|apply zAF|apply w0|(apply zAn;exact rfl;exact rfl;first|assumption|omega)|(apply zAs;exact rfl;exact rfl;first|assumption|omega)|(refine zAZ ids9 [] rfl rfl zAv (hT) rfl ?_ rfl (by decide) rfl rfl rfl rfl;(repeat (refine zAB rfl ?_));exact zAE)|(refine zBr (by kernel_rfl) ?_;refine aVMc (fx:=fx) (k:=none) (m:=m) (r:=r) zCN hN ?_ rfl rfl ?_;(repeat (refine zAB rfl ?_));exact zAE)|(apply aBox (hd:=rfl) (hro:=rfl);exact rfl;exact rfl)|apply ay (hd:=rfl)|exact zAJ rfl|exact zAD rfl|exact zAm rfl rfl|(apply zAG;exact rfl;(with_reducible exact zCb);exact rfl;exact rfl)|(apply zAL;exact rfl)|(apply zAM;exact rfl)|apply zAO|apply zAU|refine zAr (by kernel_rfl) (by kernel_rfl) ?_|apply eb_n
 all_goals first|omega|skip
 all_goals exact zBM rfl rfl
set_option maxHeartbeats 4000000 in
theorem zP9(m:Img)(r:Raw){u:Nat}{a:Int}(ht:Arg r 1 u)(h1:zAp Tryz.prog 54 [w64 u] (.tup [i64 a,bl true]))(ho:r.out.length≤1048576): zAW Tryz.prog 48 [.ptr 0 0,.d (i64 12)] (MX m r) .top (MX m { r with out:=r.out++[shw (W a)] }):=by
 obtain⟨hn,_,hu,hl⟩:=ht
 have hT:=zBl m r (k:=0) (by omega) hu hl
 have hN:=zEA m r h1
 refine zAy Tryz.func48 rfl Tryz.ntmps48 Tryz.results48 rfl ?_
 intro wb St0 X fx
 repeat' first|(refine zJQ (rid:=24) [.ptr 0 0,.ptr 0 0,.ptr 0 0,.ptr 0 (0+9),.ptr 0 (0+9+3),.buf 8 r.out.length,.d (i64 a),.d (str (shw (W a))),.d (.slice [str (shw (W a))]),.top] 9 8 (by kernel_rfl) (by kernel_rfl) rfl rfl rfl (.inr (by kernel_rfl)) ⟨.inr ⟨⟨rfl,zAG rfl zCb rfl rfl⟩,rfl,rfl,.inr ⟨rfl,rfl,zAG rfl zCb rfl rfl⟩⟩,⟨.inr ⟨⟨rfl,zAG rfl zCb rfl rfl⟩,rfl,rfl,.inl (by kernel_rfl)⟩,⟨.inr ⟨⟨rfl,zAN rfl⟩,rfl,rfl,.inl (by kernel_rfl)⟩,⟨.inr ⟨⟨rfl,zAC rfl zBz⟩,rfl,rfl,.inl (by kernel_rfl)⟩,⟨.inr ⟨⟨rfl,zAC rfl zF2⟩,rfl,rfl,.inl (by kernel_rfl)⟩,⟨.inr ⟨⟨rfl,zAG rfl zFK rfl rfl⟩,rfl,rfl,.inl (by kernel_rfl)⟩,⟨.inr ⟨⟨rfl,zAJ rfl⟩,rfl,rfl,.inl (by kernel_rfl)⟩,⟨.inr ⟨⟨rfl,zAh zTR (zRy _) (zAa rfl zAR)⟩,rfl,rfl,.inl (by kernel_rfl)⟩,⟨.inr ⟨⟨rfl,zCG zHb zFN zPL rfl rfl (zAa rfl zAR) rfl⟩,rfl,rfl,.inl (by kernel_rfl)⟩,⟨.inl rfl,trivial⟩⟩⟩⟩⟩⟩⟩⟩⟩⟩ rfl rfl rfl (List.length_map _).symm rfl zHb zFN zUB zRA rfl rfl (zDv rfl) (by simp only[List.length_cons,List.length_nil];omega) ?_)|apply en_n|apply zAK|apply zAA|apply zAF|apply w0|(refine zBr (by kernel_rfl) ?_;apply zAl;exact rfl;exact rfl;exact rfl;(with_reducible exact zFK);exact rfl;exact rfl;exact rfl;exact rfl)|(apply zAn;exact rfl;exact rfl;first|assumption|omega)|(apply zAs;exact rfl;exact rfl;first|assumption|omega)|exact zAN rfl|(refine zAZ ids9 [] rfl rfl zAv (hT) rfl ?_ rfl (by decide) rfl rfl rfl rfl;(repeat (refine zAB rfl ?_));exact zAE)|(refine zAZ ids9 [] rfl rfl zCN (hN) rfl ?_ rfl (by decide) rfl rfl rfl rfl;(repeat (refine zAB rfl ?_));exact zAE)|(apply aBox (hd:=rfl) (hro:=rfl);exact rfl;exact rfl)|apply ay (hd:=rfl)|exact zAJ rfl|exact zAD rfl|exact zAm rfl rfl|(apply zAC;exact rfl;(with_reducible first|exact zF2|exact zBz))|(apply zAG;exact rfl;(with_reducible exact zCb);exact rfl;exact rfl)|(refine w0' ?_)|(apply zAL;exact rfl)|(apply zAM;exact rfl)|apply zAO|refine zAr (by kernel_rfl) (by kernel_rfl) ?_|apply eb_n
 all_goals first|omega|skip
 all_goals exact zCe ⟨rfl,zAV zAd (zEb rfl rfl rfl rfl rfl List.length_append rfl rfl rfl rfl rfl rfl (zBW rfl) (zBW rfl) (zBW rfl) (congrArg (Ob.buf true _ 1) (zPi r.out _).symm)) rfl rfl⟩
end Go.Proofs.YtcagoomibpcdlaaGreatDoor
