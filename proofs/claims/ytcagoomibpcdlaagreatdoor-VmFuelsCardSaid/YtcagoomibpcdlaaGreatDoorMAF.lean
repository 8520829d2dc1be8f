/- Texts of this claim, merged: WrdA, WrdC, WrdD, WrdE, WrdG, WrdB. -/
import Derived.Lib.CutLaws
import Derived.Test.YtcagoomibpcdlaaGreatDoorMAD
namespace Go.Proofs.YtcagoomibpcdlaaGreatDoor
open Go.Sx
attribute [local irreducible] zAQ Program.underlying Ylds zBD alex zCA zBi awp zAp zCI zCH zBp zBF zBv zB9 zCE
theorem zJA{a b:Int}(h:a=b): D.val (.int .i64 a)=i64 b:=by rw[h]
theorem zXD{a b:Int}(h:a=b): D.val (.int .u64 a)=u64 b:=by rw[h]
theorem tw1: (2:Int) ^ min (Int.toNat 1) IntKind.u64.bits=2:=by decide
theorem tw2: (2:Int) ^ min (Int.toNat 1) IntKind.i64.bits=2:=by decide
theorem zEc(n:Int): zAp Tryz.prog 37 [i64 n] (i64 (W n)):=by
 refine zA8 Tryz.func37 rfl Tryz.ntmps37 Tryz.results37 rfl ?_
 intro wb St0
 repeat' first|apply en_n|apply zAK|apply zAA|apply zAF|apply w0|(apply zD5;exact rfl;(first|with_reducible exact si64|with_reducible exact su64|with_reducible exact su8|with_reducible exact si32);(first|with_reducible exact ui64|with_reducible exact uu64|with_reducible exact uu8|with_reducible exact ui32))|(apply zL1;exact rfl;exact rfl;exact(by decide))|(apply zKs;exact rfl;exact rfl;exact(by decide))|apply ay (hd:=rfl)|exact zAJ rfl|exact zAD rfl|apply zAT|apply zAY|(apply res1;exact rfl)
 refine zJA ?_
 rw[tw1,tw2,Int.fdiv_eq_ediv_of_nonneg _ (by decide),zEG,zEG,zGQ,W]
 omega
theorem zUu(a b:Int): zAp Tryz.prog 84 [i64 a,i64 b] (i64 (W (a-b))):=by
 refine zA8 Tryz.func84 rfl Tryz.ntmps84 Tryz.results84 rfl ?_
 intro wb St0
 repeat' first|apply en_n|apply zAK|apply zAA|apply zAF|apply w0|(apply zD5;exact rfl;(first|with_reducible exact si64|with_reducible exact su64|with_reducible exact su8|with_reducible exact si32);(first|with_reducible exact ui64|with_reducible exact uu64|with_reducible exact uu8|with_reducible exact ui32))|(apply zYR (k:=.u64);exact rfl;exact rfl)|(refine zAh zEg (zEc _) (zAa rfl zAR))|apply ay (hd:=rfl)|exact zAJ rfl|exact zAD rfl|apply zAT|apply zAY|(apply res1;exact rfl)
 refine zJA ?_
 rw[zEG,zEG,zEG,zGQ,W,W]
 omega
theorem zUv(a b:Int): zAp Tryz.prog 86 [i64 a,i64 b] (i64 (W (a*b))):=by
 refine zA8 Tryz.func86 rfl Tryz.ntmps86 Tryz.results86 rfl ?_
 intro wb St0
 repeat' first|apply en_n|apply zAK|apply zAA|apply zAF|apply w0|(apply zD5;exact rfl;(first|with_reducible exact si64|with_reducible exact su64|with_reducible exact su8|with_reducible exact si32);(first|with_reducible exact ui64|with_reducible exact uu64|with_reducible exact uu8|with_reducible exact ui32))|(apply zYU (k:=.u64);exact rfl;exact rfl)|(refine zAh zEg (zEc _) (zAa rfl zAR))|apply ay (hd:=rfl)|exact zAJ rfl|exact zAD rfl|apply zAT|apply zAY|(apply res1;exact rfl)
 refine zJA ?_
 rw[zEG,zEG,zEG,←Int.mul_emod,zGQ,W,W]
 omega
theorem zSQ{L:List Int}{i:Nat}{v:Int}(h:L[i]?=some v): (L.take (i+1)).sum=(L.take i).sum+v:=by
 rw[List.take_add_one,h,List.sum_append];simp
theorem zUt(L:List Int)(hL:L.length≤1000000): zAp Tryz.prog 134 [ints L] (i64 (W L.sum)):=by
 refine zA8 Tryz.func134 rfl Tryz.ntmps134 Tryz.results134 rfl ?_
 intro wb St0
 repeat' first|apply en_n|apply zAK|apply zAA|apply zAF|apply w0|apply ay (hd:=rfl)|exact zAJ rfl|exact zAD rfl|(apply zBZ;exact rfl;(with_reducible exact zWO))|apply zAO
 refine zBo (α:=Nat) (fun i=>i≤L.length) (fun i=>[(3,.d (u64 ((L.take i).sum%18446744073709551616))),(6,.d (ints L)),(7,.d (i64 (L.length:Int))),(8,.d (i64 (i:Int)))]) (fun _=>[]) (fun i=>L.length-i) 0 (Nat.zero_le _)
   (zAV (Le_d rfl (by simp) (zAI rfl (zAI rfl (zAI rfl zAd)))) zA7 rfl rfl) ?_
 rintro i hi
 repeat' first|apply en_n|apply zAK|apply zAA|apply zAF|apply w0|(apply zD5;exact rfl;(first|with_reducible exact si64|with_reducible exact su64|with_reducible exact su8|with_reducible exact si32);(first|with_reducible exact ui64|with_reducible exact uu64|with_reducible exact uu8|with_reducible exact ui32))|(apply zYd (k:=.u64);exact rfl;exact rfl)|(refine zAh zEg (zEc _) (zAa rfl zAR))|(apply aI (hd:=rfl);(first|exact zCw rfl|exact zDn rfl rfl rfl|exact Co_nn rfl);exact rfl;(with_reducible exact zQ0);exact fun _=>rfl;rotate_left;intro v hv;rotate_right)|apply ay (hd:=rfl)|exact zAJ rfl|exact zAD rfl|(apply zC3;exact rfl;(with_reducible exact zUF))|exact zGm rfl rfl|(apply zBL;exact rfl;exact rfl)|(apply zCO;exact rfl;(intro hb);rotate_left;(intro hb);rotate_right)|apply zAO|apply zAU|apply zAT|apply zBu|apply en_e|apply eb_n|apply eb_e|apply zAY|(apply res1;exact rfl)
 ·omega
 ·omega
 ·refine⟨i+1,by omega,by omega,zAV (Le_d rfl (zXD ?_).symm (zAI rfl (zAI rfl (zAI rfl zAd)))) zA7 rfl rfl⟩
  rw[zSQ (i:=i) hv,zEG,zEG]
  omega
 ·refine zJA ?_
  have:L.take i=L:=List.take_of_length_le (by omega)
  rw[this,zGQ,W,W]
  omega
theorem zUy(a b:Int): zAp Tryz.prog 82 [i64 a,i64 b] (i64 (W (a+b))):=by
 refine zA8 Tryz.func82 rfl Tryz.ntmps82 Tryz.results82 rfl ?_
 intro wb St0
 repeat' first|apply en_n|apply zAK|apply zAA|apply zAF|apply w0|(refine zAh zV9 (zUt [a,b] (by simp)) (zAa rfl zAR))|apply ay (hd:=rfl)|exact zAJ rfl|exact zAD rfl|(apply zGK;(with_reducible exact zTc);(with_reducible exact zQ0);(with_reducible exact zW4);exact rfl;exact rfl;(first|exact zAa rfl (zAa rfl zAR)|exact CoL_b rfl rfl rfl (CoL_b rfl rfl rfl zAR));exact rfl)|apply zAT|apply zAY|(apply res1;exact rfl)
 refine zJA ?_
 simp
end Go.Proofs.YtcagoomibpcdlaaGreatDoor
namespace Go.Proofs.YtcagoomibpcdlaaGreatDoor
open Go.Sx
attribute [local irreducible] zAQ Program.underlying Ylds zBD alex zCA zBi awp zAp zCI zCH zBp zBF zBv zB9 zCE
theorem zJK{k:Nat}(h:k<10): (UInt8.ofNat (48+k)).toNat=48+k:=by
 rw[UInt8.toNat_ofNat'];omega
theorem zTd(u:Nat): ∀d∈Lib.decDigits u,48≤d.toNat∧d.toNat≤57:=by
 induction u using Nat.strongRecOn with
 |_ u ih =>
  intro d hd
  rw[Lib.decDigits]at hd
  split at hd
  ·rename_i h
   rw[List.mem_singleton]at hd
   rw[hd,zJK h];omega
  ·rename_i h
   rcases List.mem_append.1 hd with hd|hd
   ·exact ih (u / 10) (by omega) d hd
   ·rw[List.mem_singleton]at hd
    rw[hd,zJK (Nat.mod_lt _ (by decide))];omega
def shw(n:Int): List UInt8:=if n<0 then 126::Lib.decDigits n.natAbs else Lib.decDigits n.natAbs
theorem zXd(n:Int): Lib.replace (Lib.itoa n) [45] [126] 1=shw n:=by
 rw[Lib.replace,if_neg (by decide)]
 unfold Lib.itoa shw
 split
 ·rename_i h
  have h1:Lib.replaceNum (45::Lib.decDigits n.natAbs) [45] 1=1:=by
   rw[Lib.replaceNum,Lib.count_cons_eq,if_neg (by omega)];rfl
  rw[h1,Lib.replaceK_hit [45] [126] 0 _ 0 (by rw[Lib.index];rfl)]
  simp[Lib.replaceK]
 ·rename_i h
  have h2:Lib.count (Lib.decDigits n.toNat) [45]=0:=by
   rw[Lib.count_one,List.count_eq_zero]
   intro hm
   have:=zTd _ _ hm
   exact absurd this.1 (by decide)
  have h1:Lib.replaceNum (Lib.decDigits n.toNat) [45] 1=0:=by
   rw[Lib.replaceNum,h2,if_pos (by omega)]
  rw[h1,Lib.replaceK,show n.toNat=n.natAbs by omega]
theorem zXO{a b:List UInt8}(h:a=b): str a=str b:=by rw[h]
theorem zRy(n:Int): zAp Tryz.prog 96 [i64 n] (str (shw (W n))):=by
 have hw:=W_bd n
 refine zA8 Tryz.func96 rfl Tryz.ntmps96 Tryz.results96 rfl ?_
 intro wb St0
 repeat' first|apply en_n|apply zAK|apply zAA|apply zAF|apply w0|(refine zAh zEg (zEc _) (zAa rfl zAR))|(refine zAh zLf (zMB (W n) (by omega) (by omega)) (zAa rfl (zAa rfl zAR)))|(refine zAh zOy (zPJ (Lib.itoa (W n)) [45] [126] 1 (by decide) (Nat.le_trans (Lib.itoa_length_le (W n) (by omega) (by omega)) (by decide)) (by decide)) (zAa rfl (zAa rfl (zAa rfl (zAa rfl zAR)))))|apply ay (hd:=rfl)|exact zAJ rfl|exact zAD rfl|apply zAT|apply zAY|(apply res1;exact rfl)
 exact zXO (zXd _)
end Go.Proofs.YtcagoomibpcdlaaGreatDoor
namespace Go.Proofs.YtcagoomibpcdlaaGreatDoor
open Go.Sx
end Go.Proofs.YtcagoomibpcdlaaGreatDoor
namespace Go.Proofs.YtcagoomibpcdlaaGreatDoor
open Go.Sx
attribute [local irreducible] zAQ Program.underlying Ylds zBD alex zCA zBi awp zAp zCI zCH zBp zBF zBv zB9 zCE
end Go.Proofs.YtcagoomibpcdlaaGreatDoor
namespace Go.Proofs.YtcagoomibpcdlaaGreatDoor
open Go.Sx
attribute [local irreducible] zAQ Program.underlying Ylds zBD alex zCA zBi awp zAp zCI zCH zBp zBF zBv zB9 zCE
end Go.Proofs.YtcagoomibpcdlaaGreatDoor
namespace Go.Proofs.YtcagoomibpcdlaaGreatDoor
open Go.Sx
attribute [local irreducible] zAQ Program.underlying Ylds zBD alex zCA zBi awp zAp zCI zCH zBp zBF zBv zB9 zCE
theorem zZa(x:Int): W (IntKind.i64.wrap x)=W x:=by rw[zGQ,W,W];omega
def divV(a b:Int): Int:=if W b=0 then 0 else W ((W a).tdiv (W b))
def modV(a b:Int): Int:=if W b=0 then 0 else(W a).tmod (W b)
def zOK(b:Int): Int:=if W b=0 then 10 else 0
theorem zE0{b:Int}(h:W b=0): zOK b=10:=if_pos h
theorem zE1{b:Int}(h:¬W b=0): zOK b=0:=if_neg h
theorem zUx(a b:Int): zAp Tryz.prog 89 [i64 a,i64 b] (.tup [i64 (divV a b),i64 (zOK b)]):=by
 refine zA8 Tryz.func89 rfl Tryz.ntmps89 Tryz.results89 rfl ?_
 intro wb St0
 repeat' first|apply en_n|apply zAK|apply zAA|apply zAF|apply w0|(refine zAh zEg (zEc _) (zAa rfl zAR))|(apply zTz;exact rfl;exact rfl;assumption)|apply ay (hd:=rfl)|exact zAJ rfl|exact zAD rfl|exact zGM rfl rfl|(apply zCO;exact rfl;(intro hb);rotate_left;(intro hb);rotate_right)|apply zAU|apply zAT|apply en_r|apply zAY|(apply res2;exact rfl;exact rfl)
 all_goals refine zJA ?_
 ·rw[divV,if_pos hb]
 ·rw[zE0 hb]
 ·rw[divV,if_neg hb];exact zZa _
 ·rw[zE1 hb]
theorem zUw(a b:Int): zAp Tryz.prog 91 [i64 a,i64 b] (.tup [i64 (modV a b),i64 (zOK b)]):=by
 refine zA8 Tryz.func91 rfl Tryz.ntmps91 Tryz.results91 rfl ?_
 intro wb St0
 repeat' first|apply en_n|apply zAK|apply zAA|apply zAF|apply w0|(refine zAh zEg (zEc _) (zAa rfl zAR))|(apply zWi;exact rfl;exact rfl;assumption)|apply ay (hd:=rfl)|exact zAJ rfl|exact zAD rfl|exact zGM rfl rfl|(apply zCO;exact rfl;(intro hb);rotate_left;(intro hb);rotate_right)|apply zAU|apply zAT|apply en_r|apply zAY|(apply res2;exact rfl;exact rfl)
 all_goals refine zJA ?_
 ·rw[modV,if_pos hb]
 ·rw[zE0 hb]
 ·rw[modV,if_neg hb]
 ·rw[zE1 hb]
end Go.Proofs.YtcagoomibpcdlaaGreatDoor
