/- Parts of the proof. -/
import Derived.Lib.CutLaws
import Derived.Test.YtcagoomibpcdlaaGreatDoorMAD
set_option maxHeartbeats 16000000
namespace Go.Proofs.YtcagoomibpcdlaaGreatDoor
open _root_.Go.Proofs.Tryz
open Go.Sx
attribute [local irreducible] zAN Program.underlying Ylds zA9 alex zB3 zBf awp zAi zCC zCB zBj zBB zBr zB2 zB8
theorem zG7{a b:Int}(h:a=b): D.val (.int .i64 a)=i64 b:=by rw[h]
theorem zX3{a b:Int}(h:a=b): D.val (.int .u64 a)=u64 b:=by rw[h]
theorem tw1: (2:Int) ^ min (Int.toNat 1) IntKind.u64.bits=2:=by decide
theorem tw2: (2:Int) ^ min (Int.toNat 1) IntKind.i64.bits=2:=by decide
theorem zEm(n:Int): zAi prog 37 [i64 n] (i64 (W n)):=by
 refine zAs func37 rfl ntmps37 results37 rfl ?_
 intro wb St0
 repeat' first|apply en_n|apply zAH|apply zAA|apply zAD|apply w0|(apply zD6;exact rfl;(first|with_reducible exact si64|with_reducible exact su64|with_reducible exact su8|with_reducible exact si32);(first|with_reducible exact ui64|with_reducible exact uu64|with_reducible exact uu8|with_reducible exact ui32))|(apply zMU;exact rfl;exact rfl;exact(by decide))|(apply zLE;exact rfl;exact rfl;exact(by decide))|apply ay (hd:=rfl)|exact zAF rfl|exact zAB rfl|apply zAQ|apply zAR|refine res1 rfl ?_
 refine zG7 ?_
 rw[tw1,tw2,qBY _ (by decide),zDd,zDd,zEl,W]
 omega
theorem zXR(n:Int)(h:0<=n): zAi prog 103 [u64 n] (i64 (W n)):=by
 refine zAs func103 rfl ntmps103 results103 rfl ?_
 intro wb St0
 have e:n.tmod 9223372036854775808=n%9223372036854775808:=Int.tmod_eq_emod_of_nonneg h
 repeat' first|apply en_n|apply zAH|apply zAA|apply zAD|apply w0|(apply zD6;exact rfl;(first|with_reducible exact si64|with_reducible exact su64|with_reducible exact su8|with_reducible exact si32);(first|with_reducible exact ui64|with_reducible exact uu64|with_reducible exact uu8|with_reducible exact ui32))|(apply zR8 (k:=.u64);exact rfl;exact rfl)|(apply zR8 (k:=.i64);exact rfl;exact rfl)|(apply zUg;exact rfl;exact rfl;exact(by decide))|apply ay (hd:=rfl)|exact zAF rfl|exact zAB rfl|exact zJp rfl rfl|(apply zBT;exact rfl;all_goals intro hb)|apply zAS|apply zAQ|apply en_r|apply zAR|refine res1 rfl ?_
 ·refine zG7 ?_
  rw[e]at hb ⊢
  rw[zDd,zEl,zEl,W]
  omega
 ·refine zG7 ?_
  rw[e]at hb ⊢
  rw[zEl,W]
  omega
theorem zTW(n:Int): zAi prog 58 [i64 n] (i64 (W n)):=by
 refine zAs func58 rfl ntmps58 results58 rfl ?_
 intro wb St0
 repeat' first|apply en_n|apply zAH|apply zAA|apply zAD|apply w0|(apply zD6;exact rfl;(first|with_reducible exact si64|with_reducible exact su64|with_reducible exact su8|with_reducible exact si32);(first|with_reducible exact ui64|with_reducible exact uu64|with_reducible exact uu8|with_reducible exact ui32))|(refine zAb zW9 (zXR _ (by rw[zDd];omega)) (zAY rfl zAM))|apply ay (hd:=rfl)|exact zAF rfl|exact zAB rfl|apply zAQ|apply zAR|refine res1 rfl ?_
 refine zG7 ?_
 rw[zDd,W,W]
 omega
theorem zVi(a b:Int): zAi prog 84 [i64 a,i64 b] (i64 (W (a-b))):=by
 refine zAs func84 rfl ntmps84 results84 rfl ?_
 intro wb St0
 repeat' first|apply en_n|apply zAH|apply zAA|apply zAD|apply w0|(apply zD6;exact rfl;(first|with_reducible exact si64|with_reducible exact su64|with_reducible exact su8|with_reducible exact si32);(first|with_reducible exact ui64|with_reducible exact uu64|with_reducible exact uu8|with_reducible exact ui32))|(apply zR8 (k:=.u64);exact rfl;exact rfl)|(refine zAb zEr (zEm _) (zAY rfl zAM))|apply ay (hd:=rfl)|exact zAF rfl|exact zAB rfl|apply zAQ|apply zAR|refine res1 rfl ?_
 refine zG7 ?_
 rw[zDd,zDd,zDd,zEl,W,W]
 omega
theorem zVj(a b:Int): zAi prog 86 [i64 a,i64 b] (i64 (W (a*b))):=by
 refine zAs func86 rfl ntmps86 results86 rfl ?_
 intro wb St0
 repeat' first|apply en_n|apply zAH|apply zAA|apply zAD|apply w0|(apply zD6;exact rfl;(first|with_reducible exact si64|with_reducible exact su64|with_reducible exact su8|with_reducible exact si32);(first|with_reducible exact ui64|with_reducible exact uu64|with_reducible exact uu8|with_reducible exact ui32))|(apply zZJ (k:=.u64);exact rfl;exact rfl)|(refine zAb zEr (zEm _) (zAY rfl zAM))|apply ay (hd:=rfl)|exact zAF rfl|exact zAB rfl|apply zAQ|apply zAR|refine res1 rfl ?_
 refine zG7 ?_
 rw[zDd,zDd,zDd,<-Int.mul_emod,zEl,W,W]
 omega
theorem zS3{L:List Int}{i:Nat}{v:Int}(h:L[i]?=some v): (L.take (i+1)).sum=(L.take i).sum+v:=by
 rw[qBO,h,List.sum_append];simp
theorem zVh(L:List Int)(hL:L.length<=1000000): zAi prog 134 [ints L] (i64 (W L.sum)):=by
 refine zAs func134 rfl ntmps134 results134 rfl ?_
 intro wb St0
 repeat' first|apply en_n|apply zAH|apply zAA|apply zAD|apply w0|apply ay (hd:=rfl)|exact zAF rfl|exact zAB rfl|exact zBI rfl zXG|apply zAL
 refine zBW (α:=Nat) (fun i=>i<=L.length) (fun i=>[(3,.d (u64 ((L.take i).sum%18446744073709551616))),(6,.d (ints L)),(7,.d (i64 (L.length:Int))),(8,.d (i64 (i:Int)))]) (fun _=>[]) (fun i=>L.length-i) 0 (qAX _)
   (zAT (Le_d rfl (by simp) (Le_all rfl)) zAt rfl rfl) ?_
 rintro i hi
 repeat' first|apply en_n|apply zAH|apply zAA|apply zAD|apply w0|(apply zD6;exact rfl;(first|with_reducible exact si64|with_reducible exact su64|with_reducible exact su8|with_reducible exact si32);(first|with_reducible exact ui64|with_reducible exact uu64|with_reducible exact uu8|with_reducible exact ui32))|(apply zZO (k:=.u64);exact rfl;exact rfl)|(refine zAb zEr (zEm _) (zAY rfl zAM))|(apply aI (hd:=rfl);(first|exact zCW rfl|exact zC3 rfl rfl rfl|exact Co_nn rfl);exact rfl;(with_reducible exact zRd);exact fun _=>rfl;rotate_left;intro v hv;rotate_right)|apply ay (hd:=rfl)|exact zAF rfl|exact zAB rfl|exact zCb rfl zUx|exact zEw rfl rfl|refine zBE rfl rfl ?_|(apply zBT;exact rfl;all_goals intro hb)|apply zAL|apply zAS|apply zAQ|apply zBc|apply en_e|apply eb_n|apply eb_e|apply zAR|refine res1 rfl ?_
 ·omega
 ·omega
 ·refine⟨i+1,by omega,by omega,zAT (Le_d rfl (zX3 ?_).symm (Le_all rfl)) zAt rfl rfl⟩
  rw[zS3 (i:=i) hv,zDd,zDd]
  omega
 ·refine zG7 ?_
  have:L.take i=L:=qAi (by omega)
  rw[this,zEl,W,W]
  omega
theorem zVm(a b:Int): zAi prog 82 [i64 a,i64 b] (i64 (W (a+b))):=by
 refine zAs func82 rfl ntmps82 results82 rfl ?_
 intro wb St0
 repeat' first|apply en_n|apply zAH|apply zAA|apply zAD|apply w0|(refine zAb zW1 (zVh [a,b] (by simp)) (zAY rfl zAM))|apply ay (hd:=rfl)|exact zAF rfl|exact zAB rfl|(apply zFX;(with_reducible exact zUK);(with_reducible exact zRd);(with_reducible exact zXv);exact rfl;exact rfl;(first|exact zAY rfl (zAY rfl zAM)|exact CoL_b rfl rfl rfl (CoL_b rfl rfl rfl zAM));exact rfl)|apply zAQ|apply zAR|refine res1 rfl ?_
 refine zG7 ?_
 simp
theorem zJa{k:Nat}(h:k<10): (UInt8.ofNat (48+k)).toNat=48+k:=by
 rw[UInt8.toNat_ofNat'];omega
theorem zUL(u:Nat): ∀d∈Lib.decDigits u,48<=d.toNat/\d.toNat<=57:=by
 induction u using Nat.strongRecOn with
 |_ u ih =>
  intro d hd
  rw[Lib.decDigits]at hd
  split at hd
  ·rename_i h
   rw[qAO]at hd
   rw[hd,zJa h];omega
  ·rename_i h
   rcases qAd.1 hd with hd|hd
   ·exact ih (u / 10) (by omega) d hd
   ·rw[qAO]at hd
    rw[hd,zJa (Nat.mod_lt _ (by decide))];omega
def shw(n:Int): List UInt8:=if n<0 then 126::Lib.decDigits n.natAbs else Lib.decDigits n.natAbs
theorem zYS(n:Int): Lib.replace (Lib.itoa n) [45] [126] 1=shw n:=by
 rw[Lib.replace,if_neg (by decide)]
 unfold Lib.itoa shw
 split
 ·rename_i h
  have h1:Lib.replaceNum (45::Lib.decDigits n.natAbs) [45] 1=1:=by
   rw[Lib.replaceNum,Lib.count_cons_eq,if_neg (by omega)];rfl
  rw[h1,Lib.replaceK_hit [45] [126] 0 _ 0 (by rw[Lib.index];rfl)]
  simp[Lib.replaceK]
 ·rename_i h
  have h2:Lib.count (Lib.decDigits n.toNat) [45]=0:=by
   rw[Lib.count_one,List.count_eq_zero]
   intro hm
   have:=zUL _ _ hm
   exact absurd this.1 (by decide)
  have h1:Lib.replaceNum (Lib.decDigits n.toNat) [45] 1=0:=by
   rw[Lib.replaceNum,h2,if_pos (by omega)]
  rw[h1,Lib.replaceK,show n.toNat=n.natAbs by omega]
theorem zYE{a b:List UInt8}(h:a=b): str a=str b:=by rw[h]
theorem zSc(n:Int): zAi prog 96 [i64 n] (str (shw (W n))):=by
 have hw:=W_bd n
 refine zAs func96 rfl ntmps96 results96 rfl ?_
 intro wb St0
 repeat' first|apply en_n|apply zAH|apply zAA|apply zAD|apply w0|(refine zAb zEr (zEm _) (zAY rfl zAM))|(refine zAb zL7 (zMd (W n) (by omega) (by omega)) (zAY rfl (zAY rfl zAM)))|(refine zAb zPZ (zPw (Lib.itoa (W n)) [45] [126] 1 (by decide) (qA2 (Lib.itoa_length_le (W n) (by omega) (by omega)) (by decide)) (by decide)) (zAY rfl (zAY rfl (zAY rfl (zAY rfl zAM)))))|apply ay (hd:=rfl)|exact zAF rfl|exact zAB rfl|apply zAQ|apply zAR|refine res1 rfl ?_
 exact zYE (zYS _)
end Go.Proofs.YtcagoomibpcdlaaGreatDoor
namespace Go.Proofs.YtcagoomibpcdlaaGreatDoor
open Go.Sx
attribute [local irreducible] zAN Program.underlying Ylds zA9 alex zB3 zBf awp zAi zCC zCB zBj zBB zBr zB2 zB8

open _root_.Go.Proofs.Tryz
theorem zaL(x:Int): W (IntKind.i64.wrap x)=W x:=by rw[zEl,W,W];omega
def divV(a b:Int): Int:=if W b=0 then 0 else W ((W a).tdiv (W b))
def modV(a b:Int): Int:=if W b=0 then 0 else(W a).tmod (W b)
def zOv(b:Int): Int:=if W b=0 then 10 else 0
theorem zE0{b:Int}(h:W b=0): zOv b=10:=if_pos h
theorem zE1{b:Int}(h:¬W b=0): zOv b=0:=if_neg h
theorem zVl(a b:Int): zAi prog 89 [i64 a,i64 b] (.tup [i64 (divV a b),i64 (zOv b)]):=by
 refine zAs func89 rfl ntmps89 results89 rfl ?_
 intro wb St0
 repeat' first|apply en_n|apply zAH|apply zAA|apply zAD|apply w0|(refine zAb zEr (zEm _) (zAY rfl zAM))|(apply zR9;exact rfl;exact rfl;assumption)|apply ay (hd:=rfl)|exact zAF rfl|exact zAB rfl|exact zFN rfl rfl|(apply zBT;exact rfl;all_goals intro hb)|apply zAS|apply zAQ|apply en_r|apply zAR|(apply res2;exact rfl;exact rfl)
 all_goals refine zG7 ?_
 ·rw[divV,if_pos hb]
 ·rw[zE0 hb]
 ·rw[divV,if_neg hb];exact zaL _
 ·rw[zE1 hb]
theorem zVk(a b:Int): zAi prog 91 [i64 a,i64 b] (.tup [i64 (modV a b),i64 (zOv b)]):=by
 refine zAs func91 rfl ntmps91 results91 rfl ?_
 intro wb St0
 repeat' first|apply en_n|apply zAH|apply zAA|apply zAD|apply w0|(refine zAb zEr (zEm _) (zAY rfl zAM))|(apply zUg;exact rfl;exact rfl;assumption)|apply ay (hd:=rfl)|exact zAF rfl|exact zAB rfl|exact zFN rfl rfl|(apply zBT;exact rfl;all_goals intro hb)|apply zAS|apply zAQ|apply en_r|apply zAR|(apply res2;exact rfl;exact rfl)
 all_goals refine zG7 ?_
 ·rw[modV,if_pos hb]
 ·rw[zE0 hb]
 ·rw[modV,if_neg hb]
 ·rw[zE1 hb]
end Go.Proofs.YtcagoomibpcdlaaGreatDoor
