/- Parts of the proof. -/
import Derived.Lib.CutLaws
import Derived.Test.YtcagoomibpcdlaaGreatDoorMAD
set_option maxHeartbeats 16000000
namespace Go.Proofs.YtcagoomibpcdlaaGreatDoor
open _root_.Go.Proofs.Tryz
open Go.Sx
attribute [local irreducible] zAO Program.underlying Ylds zBE alex zB0 zBk awp zAg zB9 zB8 zBn zBC zBq zBz zB7
theorem zHH{a b:Int}(h:a=b): D.val (.int .i64 a)=i64 b:=by rw[h]
theorem zYm{a b:Int}(h:a=b): D.val (.int .u64 a)=u64 b:=by rw[h]
theorem tw1: (2:Int) ^ min (Int.toNat 1) IntKind.u64.bits=2:=by decide
theorem tw2: (2:Int) ^ min (Int.toNat 1) IntKind.i64.bits=2:=by decide
theorem zEt(n:Int): zAg prog 37 [i64 n] (i64 (W n)):=by
 refine zAr func37 rfl ntmps37 results37 rfl ?_
 intro wb St0
 repeat' first|apply en_n|apply zAG|apply zAA|apply zAD|apply w0|(apply zEA;exact rfl;(first|with_reducible exact si64|with_reducible exact su64|with_reducible exact su8|with_reducible exact si32);(first|with_reducible exact ui64|with_reducible exact uu64|with_reducible exact uu8|with_reducible exact ui32))|(apply zM2;exact rfl;exact rfl;exact(by decide))|(apply zLj;exact rfl;exact rfl;exact(by decide))|apply ay (hd:=rfl)|exact zAF rfl|exact zAB rfl|apply zAQ|apply zAT|refine res1 rfl ?_
 refine zHH ?_
 rw[tw1,tw2,qBc _ (by decide),zDd,zDd,zEs,W]
 omega
theorem zYC(n:Int)(h:0<=n): zAg prog 103 [u64 n] (i64 (W n)):=by
 refine zAr func103 rfl ntmps103 results103 rfl ?_
 intro wb St0
 have e:n.tmod 9223372036854775808=n%9223372036854775808:=Int.tmod_eq_emod_of_nonneg h
 repeat' first|apply en_n|apply zAG|apply zAA|apply zAD|apply w0|(apply zEA;exact rfl;(first|with_reducible exact si64|with_reducible exact su64|with_reducible exact su8|with_reducible exact si32);(first|with_reducible exact ui64|with_reducible exact uu64|with_reducible exact uu8|with_reducible exact ui32))|(apply zSw (k:=.u64);exact rfl;exact rfl)|(apply zSw (k:=.i64);exact rfl;exact rfl)|(apply zVN;exact rfl;exact rfl;exact(by decide))|apply ay (hd:=rfl)|exact zAF rfl|exact zAB rfl|exact zH9 rfl rfl|(apply zBa;exact rfl;all_goals intro hb)|apply zAR|apply zAQ|apply en_r|apply zAT|refine res1 rfl ?_
 ·refine zHH ?_
  rw[e]at hb ⊢
  rw[zDd,zEs,zEs,W]
  omega
 ·refine zHH ?_
  rw[e]at hb ⊢
  rw[zEs,W]
  omega
theorem zOX(n:Int): zAg prog 58 [i64 n] (i64 (W n)):=by
 refine zAr func58 rfl ntmps58 results58 rfl ?_
 intro wb St0
 repeat' first|apply en_n|apply zAG|apply zAA|apply zAD|apply w0|(apply zEA;exact rfl;(first|with_reducible exact si64|with_reducible exact su64|with_reducible exact su8|with_reducible exact si32);(first|with_reducible exact ui64|with_reducible exact uu64|with_reducible exact uu8|with_reducible exact ui32))|(refine zAd zXt (zYC _ (by rw[zDd];omega)) (CoLA rfl))|apply ay (hd:=rfl)|exact zAF rfl|exact zAB rfl|apply zAQ|apply zAT|refine res1 rfl ?_
 refine zHH ?_
 rw[zDd,W,W]
 omega
theorem zWP(a b:Int): zAg prog 84 [i64 a,i64 b] (i64 (W (a-b))):=by
 refine zAr func84 rfl ntmps84 results84 rfl ?_
 intro wb St0
 repeat' first|apply en_n|apply zAG|apply zAA|apply zAD|apply w0|(apply zEA;exact rfl;(first|with_reducible exact si64|with_reducible exact su64|with_reducible exact su8|with_reducible exact si32);(first|with_reducible exact ui64|with_reducible exact uu64|with_reducible exact uu8|with_reducible exact ui32))|(apply zSw (k:=.u64);exact rfl;exact rfl)|(refine zAd zEy (zEt _) (CoLA rfl))|apply ay (hd:=rfl)|exact zAF rfl|exact zAB rfl|apply zAQ|apply zAT|refine res1 rfl ?_
 refine zHH ?_
 rw[zDd,zDd,zDd,zEs,W,W]
 omega
theorem zWQ(a b:Int): zAg prog 86 [i64 a,i64 b] (i64 (W (a*b))):=by
 refine zAr func86 rfl ntmps86 results86 rfl ?_
 intro wb St0
 repeat' first|apply en_n|apply zAG|apply zAA|apply zAD|apply w0|(apply zEA;exact rfl;(first|with_reducible exact si64|with_reducible exact su64|with_reducible exact su8|with_reducible exact si32);(first|with_reducible exact ui64|with_reducible exact uu64|with_reducible exact uu8|with_reducible exact ui32))|(apply zZ9 (k:=.u64);exact rfl;exact rfl)|(refine zAd zEy (zEt _) (CoLA rfl))|apply ay (hd:=rfl)|exact zAF rfl|exact zAB rfl|apply zAQ|apply zAT|refine res1 rfl ?_
 refine zHH ?_
 rw[zDd,zDd,zDd,<-Int.mul_emod,zEs,W,W]
 omega
theorem zTn{L:List Int}{i:Nat}{v:Int}(h:L[i]?=some v): (L.take (i+1)).sum=(L.take i).sum+v:=by
 rw[qBQ,h,List.sum_append];simp
theorem zWO(L:List Int)(hL:L.length<=1000000): zAg prog 134 [ints L] (i64 (W L.sum)):=by
 refine zAr func134 rfl ntmps134 results134 rfl ?_
 intro wb St0
 repeat' first|apply en_n|apply zAG|apply zAA|apply zAD|apply w0|apply ay (hd:=rfl)|exact zAF rfl|exact zAB rfl|exact zBD rfl zX0|apply zAK
 refine zBV (α:=Nat) (fun i=>i<=L.length) (fun i=>[(3,.d (u64 ((L.take i).sum%18446744073709551616))),(6,.d (ints L)),(7,.d (i64 (L.length:Int))),(8,.d (i64 (i:Int)))]) (fun _=>[]) (fun i=>L.length-i) 0 (qAV _)
   (zAS (Le_d rfl (by simp) (Le_all rfl)) zAs rfl rfl) ?_
 rintro i hi
 repeat' first|apply en_n|apply zAG|apply zAA|apply zAD|apply w0|(apply zEA;exact rfl;(first|with_reducible exact si64|with_reducible exact su64|with_reducible exact su8|with_reducible exact si32);(first|with_reducible exact ui64|with_reducible exact uu64|with_reducible exact uu8|with_reducible exact ui32))|(apply zaD (k:=.u64);exact rfl;exact rfl)|(refine zAd zEy (zEt _) (CoLA rfl))|(apply aI (hd:=rfl);(first|exact zCQ rfl|exact zCp rfl rfl rfl|exact Co_nn rfl);exact rfl;(with_reducible exact zSP);exact fun _=>rfl;rotate_left;intro v hv;rotate_right)|apply ay (hd:=rfl)|exact zAF rfl|exact zAB rfl|exact zCK rfl zQv|exact zEM rfl rfl|refine zBG rfl rfl ?_|(apply zBa;exact rfl;all_goals intro hb)|apply zAK|apply zAR|apply zAQ|apply zBX|apply en_e|apply eb_n|apply eb_e|apply zAT|refine res1 rfl ?_
 ·omega
 ·omega
 ·refine⟨i+1,by omega,by omega,zAS (Le_d rfl (zYm ?_).symm (Le_all rfl)) zAs rfl rfl⟩
  rw[zTn (i:=i) hv,zDd,zDd]
  omega
 ·refine zHH ?_
  have:L.take i=L:=qAi (by omega)
  rw[this,zEs,W,W]
  omega
theorem zWT(a b:Int): zAg prog 82 [i64 a,i64 b] (i64 (W (a+b))):=by
 refine zAr func82 rfl ntmps82 results82 rfl ?_
 intro wb St0
 repeat' first|apply en_n|apply zAG|apply zAA|apply zAD|apply w0|(refine zAd zXk (zWO [a,b] (by simp)) (CoLA rfl))|apply ay (hd:=rfl)|exact zAF rfl|exact zAB rfl|(apply zGj;(with_reducible exact zU2);(with_reducible exact zSP);(with_reducible exact zYe);exact rfl;exact rfl;(first|exact zAY rfl (zAY rfl zAM)|exact CoL_b rfl rfl rfl (CoL_b rfl rfl rfl zAM));exact rfl)|apply zAQ|apply zAT|refine res1 rfl ?_
 refine zHH ?_
 simp
theorem zJ3{k:Nat}(h:k<10): (UInt8.ofNat (48+k)).toNat=48+k:=by
 rw[UInt8.toNat_ofNat'];omega
theorem zU3(u:Nat): ∀d∈Lib.decDigits u,48<=d.toNat/\d.toNat<=57:=by
 induction u using Nat.strongRecOn with
 |_ u ih =>
  intro d hd
  rw[Lib.decDigits]at hd
  split at hd
  ·rename_i h
   rw[qAO]at hd
   rw[hd,zJ3 h];omega
  ·rename_i h
   rcases qAc.1 hd with hd|hd
   ·exact ih (u / 10) (by omega) d hd
   ·rw[qAO]at hd
    rw[hd,zJ3 (Nat.mod_lt _ (by decide))];omega
def shw(n:Int): List UInt8:=if n<0 then 126::Lib.decDigits n.natAbs else Lib.decDigits n.natAbs
theorem zZA(n:Int): Lib.replace (Lib.itoa n) [45] [126] 1=shw n:=by
 rw[Lib.replace,if_neg (by decide)]
 unfold Lib.itoa shw
 split
 ·rename_i h
  have h1:Lib.replaceNum (45::Lib.decDigits n.natAbs) [45] 1=1:=by
   rw[Lib.replaceNum,Lib.count_cons_eq,if_neg (by omega)];rfl
  rw[h1,Lib.replaceK_hit [45] [126] 0 _ 0 (by rw[Lib.index];rfl)]
  simp[Lib.replaceK]
 ·rename_i h
  have h2:Lib.count (Lib.decDigits n.toNat) [45]=0:=by
   rw[Lib.count_one,List.count_eq_zero]
   intro hm
   have:=zU3 _ _ hm
   exact absurd this.1 (by decide)
  have h1:Lib.replaceNum (Lib.decDigits n.toNat) [45] 1=0:=by
   rw[Lib.replaceNum,h2,if_pos (by omega)]
  rw[h1,Lib.replaceK,show n.toNat=n.natAbs by omega]
theorem zYv{a b:List UInt8}(h:a=b): str a=str b:=by rw[h]
theorem zTN(n:Int): zAg prog 96 [i64 n] (str (shw (W n))):=by
 have hw:=W_bd n
 refine zAr func96 rfl ntmps96 results96 rfl ?_
 intro wb St0
 repeat' first|apply en_n|apply zAG|apply zAA|apply zAD|apply w0|(refine zAd zEy (zEt _) (CoLA rfl))|(refine zAd zMh (zNC (W n) (by omega) (by omega)) (CoLA rfl))|(refine zAd zQD (zQZ (Lib.itoa (W n)) [45] [126] 1 (by decide) (qAw (Lib.itoa_length_le (W n) (by omega) (by omega)) (by decide)) (by decide)) (CoLA rfl))|apply ay (hd:=rfl)|exact zAF rfl|exact zAB rfl|apply zAQ|apply zAT|refine res1 rfl ?_
 exact zYv (zZA _)
end Go.Proofs.YtcagoomibpcdlaaGreatDoor
namespace Go.Proofs.YtcagoomibpcdlaaGreatDoor
open Go.Sx
attribute [local irreducible] zAO Program.underlying Ylds zBE alex zB0 zBk awp zAg zB9 zB8 zBn zBC zBq zBz zB7

open _root_.Go.Proofs.Tryz
theorem zbI(x:Int): W (IntKind.i64.wrap x)=W x:=by rw[zEs,W,W];omega
def divV(a b:Int): Int:=if W b=0 then 0 else W ((W a).tdiv (W b))
def modV(a b:Int): Int:=if W b=0 then 0 else(W a).tmod (W b)
def zPU(b:Int): Int:=if W b=0 then 10 else 0
theorem zE0{b:Int}(h:W b=0): zPU b=10:=if_pos h
theorem zE1{b:Int}(h:¬W b=0): zPU b=0:=if_neg h
theorem zWS(a b:Int): zAg prog 89 [i64 a,i64 b] (.tup [i64 (divV a b),i64 (zPU b)]):=by
 refine zAr func89 rfl ntmps89 results89 rfl ?_
 intro wb St0
 repeat' first|apply en_n|apply zAG|apply zAA|apply zAD|apply w0|(refine zAd zEy (zEt _) (CoLA rfl))|(apply zVO;exact rfl;exact rfl;assumption)|apply ay (hd:=rfl)|exact zAF rfl|exact zAB rfl|exact zE6 rfl rfl|(apply zBa;exact rfl;all_goals intro hb)|apply zAR|apply zAQ|apply en_r|apply zAT|(apply res2;exact rfl;exact rfl)
 all_goals refine zHH ?_
 ·rw[divV,if_pos hb]
 ·rw[zE0 hb]
 ·rw[divV,if_neg hb];exact zbI _
 ·rw[zE1 hb]
theorem zWR(a b:Int): zAg prog 91 [i64 a,i64 b] (.tup [i64 (modV a b),i64 (zPU b)]):=by
 refine zAr func91 rfl ntmps91 results91 rfl ?_
 intro wb St0
 repeat' first|apply en_n|apply zAG|apply zAA|apply zAD|apply w0|(refine zAd zEy (zEt _) (CoLA rfl))|(apply zVN;exact rfl;exact rfl;assumption)|apply ay (hd:=rfl)|exact zAF rfl|exact zAB rfl|exact zE6 rfl rfl|(apply zBa;exact rfl;all_goals intro hb)|apply zAR|apply zAQ|apply en_r|apply zAT|(apply res2;exact rfl;exact rfl)
 all_goals refine zHH ?_
 ·rw[modV,if_pos hb]
 ·rw[zE0 hb]
 ·rw[modV,if_neg hb]
 ·rw[zE1 hb]
end Go.Proofs.YtcagoomibpcdlaaGreatDoor
