import Derived.Test.YtcagoomibpcdlaaGreatDoorMAE
set_option maxHeartbeats 16000000
namespace Go.Proofs.YtcagoomibpcdlaaGreatDoor
open _root_.Go.Proofs.Tryz
open Go.Sx
attribute [local irreducible] zAL Program.underlying Ylds zA2 alex zBZ zBP awp zAb zBh zBg zBR zAr zBV zBY zBe
theorem zFn{a b:Int}(h:a=b): D.val (.int .i64 a)=i64 b:=by rw[h]
theorem zNu{a b:Int}(h:a=b): D.val (.int .u64 a)=u64 b:=by rw[h]
theorem tw1: (2:Int) ^ min (Int.toNat 1) IntKind.u64.bits=2:=by decide
theorem tw2: (2:Int) ^ min (Int.toNat 1) IntKind.i64.bits=2:=by decide
theorem zFp(n:Int): zAb prog 37 [i64 n] (i64 (W n)):=by
 refine zAj func37 rfl ntmps37 results37 rfl ?_
 intro wb St0
 repeat' first|apply en_n|apply zAE|apply zAA|apply zAB|apply w0|(apply zDi;exact rfl;(first|with_reducible exact si64|with_reducible exact su64|with_reducible exact su8|with_reducible exact si32);(first|with_reducible exact ui64|with_reducible exact uu64|with_reducible exact uu8|with_reducible exact ui32))|(apply zPH;exact rfl;exact rfl;exact(by decide))|(apply zNe;exact rfl;exact rfl;exact(by decide))|refine ayA rfl ?_|apply ay (hd:=rfl)|apply zAM|apply zAS|refine res1 rfl ?_
 refine zFn ?_
 rw[tw1,tw2,qBi _ (by decide),zB7,zB7,zD3,W]
 omega
theorem zLr(n:Int)(h:0<=n): zAb prog 103 [u64 n] (i64 (W n)):=by
 refine zAj func103 rfl ntmps103 results103 rfl ?_
 intro wb St0
 have e:n.tmod 9223372036854775808=n%9223372036854775808:=Int.tmod_eq_emod_of_nonneg h
 repeat' first|apply en_n|apply zAE|apply zAA|apply zAB|apply w0|(apply zDi;exact rfl;(first|with_reducible exact si64|with_reducible exact su64|with_reducible exact su8|with_reducible exact si32);(first|with_reducible exact ui64|with_reducible exact uu64|with_reducible exact uu8|with_reducible exact ui32))|(apply zPG (k:=.u64);exact rfl;exact rfl)|(apply zPG (k:=.i64);exact rfl;exact rfl)|(apply zS2;exact rfl;exact rfl;exact(by decide))|refine ayA rfl ?_|apply ay (hd:=rfl)|exact zJg rfl rfl|(apply zBO;exact rfl;all_goals intro hb)|apply zAP|apply zAM|apply en_r|apply zAS|refine res1 rfl ?_
 ·refine zFn ?_
  rw[e]at hb ⊢
  rw[zB7,zD3,zD3,W]
  omega
 ·refine zFn ?_
  rw[e]at hb ⊢
  rw[zD3,W]
  omega
theorem zIM(n:Int): zAb prog 58 [i64 n] (i64 (W n)):=by
 refine zAj func58 rfl ntmps58 results58 rfl ?_
 intro wb St0
 repeat' first|apply en_n|apply zAE|apply zAA|apply zAB|apply w0|(apply zDi;exact rfl;(first|with_reducible exact si64|with_reducible exact su64|with_reducible exact su8|with_reducible exact si32);(first|with_reducible exact ui64|with_reducible exact uu64|with_reducible exact uu8|with_reducible exact ui32))|(refine zAR zLe (zLr _ (by rw[zB7];omega)) (CoLA rfl))|refine ayA rfl ?_|apply ay (hd:=rfl)|apply zAM|apply zAS|refine res1 rfl ?_
 refine zFn ?_
 rw[zB7,W,W]
 omega
theorem zaZ(a b:Int): zAb prog 141 [i64 a,i64 b] (i64 (W (a+b))):=by
 refine zAj func141 rfl ntmps141 results141 rfl ?_
 intro wb St0
 repeat' first|apply en_n|apply zAE|apply zAA|apply zAB|apply w0|(apply zDi;exact rfl;(first|with_reducible exact si64|with_reducible exact su64|with_reducible exact su8|with_reducible exact si32);(first|with_reducible exact ui64|with_reducible exact uu64|with_reducible exact uu8|with_reducible exact ui32))|(apply zVz (k:=.u64);exact rfl;exact rfl)|(refine zAR zLe (zLr _ (by rw[zB7];omega)) (CoLA rfl))|refine ayA rfl ?_|apply ay (hd:=rfl)|apply zAM|apply zAS|refine res1 rfl ?_
 refine zFn ?_
 rw[zB7,zB7,zB7,W,W]
 omega
theorem zaT(a b:Int): zAb prog 142 [i64 a,i64 b] (i64 (W (a-b))):=by
 refine zAj func142 rfl ntmps142 results142 rfl ?_
 intro wb St0
 repeat' first|apply en_n|apply zAE|apply zAA|apply zAB|apply w0|(apply zDi;exact rfl;(first|with_reducible exact si64|with_reducible exact su64|with_reducible exact su8|with_reducible exact si32);(first|with_reducible exact ui64|with_reducible exact uu64|with_reducible exact uu8|with_reducible exact ui32))|(apply zPG (k:=.u64);exact rfl;exact rfl)|(refine zAR zLe (zLr _ (by rw[zB7];omega)) (CoLA rfl))|refine ayA rfl ?_|apply ay (hd:=rfl)|apply zAM|apply zAS|refine res1 rfl ?_
 refine zFn ?_
 rw[zB7,zB7,zB7,W,W]
 omega
theorem zaU(a b:Int): zAb prog 143 [i64 a,i64 b] (i64 (W (a*b))):=by
 refine zAj func143 rfl ntmps143 results143 rfl ?_
 intro wb St0
 repeat' first|apply en_n|apply zAE|apply zAA|apply zAB|apply w0|(apply zDi;exact rfl;(first|with_reducible exact si64|with_reducible exact su64|with_reducible exact su8|with_reducible exact si32);(first|with_reducible exact ui64|with_reducible exact uu64|with_reducible exact uu8|with_reducible exact ui32))|(apply zZI (k:=.u64);exact rfl;exact rfl)|(refine zAR zLe (zLr _ (by rw[zB7];omega)) (CoLA rfl))|refine ayA rfl ?_|apply ay (hd:=rfl)|apply zAM|apply zAS|refine res1 rfl ?_
 refine zFn ?_
 rw[zB7,zB7,zB7,<-Int.mul_emod,W,W]
 omega
theorem zZb(a b:Int): zAb prog 84 [i64 a,i64 b] (i64 (W (a-b))):=by
 refine zAj func84 rfl ntmps84 results84 rfl ?_
 intro wb St0
 repeat' first|apply en_n|apply zAE|apply zAA|apply zAB|apply w0|(apply zDi;exact rfl;(first|with_reducible exact si64|with_reducible exact su64|with_reducible exact su8|with_reducible exact si32);(first|with_reducible exact ui64|with_reducible exact uu64|with_reducible exact uu8|with_reducible exact ui32))|(apply zPG (k:=.u64);exact rfl;exact rfl)|exact ycA zFw (zFp _)|refine ayA rfl ?_|apply ay (hd:=rfl)|apply zAM|apply zAS|refine res1 rfl ?_
 refine zFn ?_
 rw[zB7,zB7,zB7,zD3,W,W]
 omega
theorem zZc(a b:Int): zAb prog 86 [i64 a,i64 b] (i64 (W (a*b))):=by
 refine zAj func86 rfl ntmps86 results86 rfl ?_
 intro wb St0
 repeat' first|apply en_n|apply zAE|apply zAA|apply zAB|apply w0|(apply zDi;exact rfl;(first|with_reducible exact si64|with_reducible exact su64|with_reducible exact su8|with_reducible exact si32);(first|with_reducible exact ui64|with_reducible exact uu64|with_reducible exact uu8|with_reducible exact ui32))|(apply zZI (k:=.u64);exact rfl;exact rfl)|exact ycA zFw (zFp _)|refine ayA rfl ?_|apply ay (hd:=rfl)|apply zAM|apply zAS|refine res1 rfl ?_
 refine zFn ?_
 rw[zB7,zB7,zB7,<-Int.mul_emod,zD3,W,W]
 omega
theorem zWl{L:List Int}{i:Nat}{v:Int}(h:L[i]?=some v): (L.take (i+1)).sum=(L.take i).sum+v:=by
 rw[qA7,h,List.sum_append];simp
theorem zZa(L:List Int)(hL:L.length<=1000000): zAb prog 134 [ints L] (i64 (W L.sum)):=by
 refine zAj func134 rfl ntmps134 results134 rfl ?_
 intro wb St0
 repeat' first|apply en_n|apply zAE|apply zAA|apply zAB|apply w0|refine ayA rfl ?_|apply zAO
 refine zBA (α:=Nat) (fun i=>i<=L.length) (fun i=>[(3,.d (u64 ((L.take i).sum%18446744073709551616))),(6,.d (ints L)),(7,.d (i64 (L.length:Int))),(8,.d (i64 (i:Int)))]) (fun _=>[]) (fun i=>L.length-i) 0 (qAQ _)
   (zAU (Le_d rfl (by simp) (Le_all rfl)) zAe rfl rfl) ?_
 rintro i hi
 repeat' first|apply en_n|apply zAE|apply zAA|apply zAB|apply w0|(apply zDi;exact rfl;(first|with_reducible exact si64|with_reducible exact su64|with_reducible exact su8|with_reducible exact si32);(first|with_reducible exact ui64|with_reducible exact uu64|with_reducible exact uu8|with_reducible exact ui32))|(apply zVz (k:=.u64);exact rfl;exact rfl)|exact ycA zFw (zFp _)|(apply aI (hd:=rfl);(first|exact zA0 rfl|exact zBX rfl rfl rfl|exact Co_nn rfl);exact rfl;(with_reducible exact zVI);exact fun _=>rfl;rotate_left;intro v hv;rotate_right)|refine ayA rfl ?_|apply ay (hd:=rfl)|exact zES rfl rfl|refine zBp rfl rfl ?_|(apply zBO;exact rfl;all_goals intro hb)|apply zAO|apply zAP|apply zAM|apply zBH|apply en_e|apply eb_n|apply eb_e|apply zAS|refine res1 rfl ?_
 ·omega
 ·omega
 ·refine⟨i+1,by omega,by omega,zAU (Le_d rfl (zNu ?_).symm (Le_all rfl)) zAe rfl rfl⟩
  rw[zWl (i:=i) hv,zB7,zB7]
  omega
 ·refine zFn ?_
  have:L.take i=L:=qAe (by omega)
  rw[this,zD3,W,W]
  omega
theorem zZf(a b:Int): zAb prog 82 [i64 a,i64 b] (i64 (W (a+b))):=by
 refine zAj func82 rfl ntmps82 results82 rfl ?_
 intro wb St0
 repeat' first|apply en_n|apply zAE|apply zAA|apply zAB|apply w0|exact ycA zbE (zZa [a,b] (by simp))|refine ayA rfl ?_|apply ay (hd:=rfl)|(apply zRj;(with_reducible exact zX4);(with_reducible exact zVI);(with_reducible exact zcC);exact rfl;exact rfl;(first|exact zAN rfl (zAN rfl zAH)|exact zEo rfl rfl rfl (zEo rfl rfl rfl zAH));exact rfl)|apply zAM|apply zAS|refine res1 rfl ?_
 refine zFn ?_
 simp
theorem zPh(n:Int)(h:-4611686018427387904<=n/\n<=4611686018427387903): zAb prog 146 [i64 n] (u64 (n.natAbs:Int)):=by
 refine zAj func146 rfl ntmps146 results146 rfl ?_
 intro wb St0
 repeat' first|apply en_n|apply zAE|apply zAA|apply zAB|apply w0|(apply zDi;exact rfl;(first|with_reducible exact si64|with_reducible exact su64|with_reducible exact su8|with_reducible exact si32);(first|with_reducible exact ui64|with_reducible exact uu64|with_reducible exact uu8|with_reducible exact ui32))|exact zdw rfl|refine ayA rfl ?_|apply ay (hd:=rfl)|exact zES rfl rfl|(apply zBO;exact rfl;all_goals intro hb)|apply zAP|apply zAM|apply en_r|apply zAS|refine res1 rfl ?_
 ·refine zNu ?_
  rw[zB7,zD3];omega
 ·refine zNu ?_
  rw[zB7];omega
theorem zd1(x:Int): W (IntKind.u64.wrap x)=W x:=by rw[zB7,W,W];omega
