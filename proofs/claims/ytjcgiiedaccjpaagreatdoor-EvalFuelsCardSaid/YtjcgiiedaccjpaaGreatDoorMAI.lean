/- Parts. -/
import Derived.Lib.CutLaws
import Derived.Test.YtjcgiiedaccjpaaGreatDoorMAD
set_option maxHeartbeats 16000000
namespace Go.Proofs.YtjcgiiedaccjpaaGreatDoor
open _root_.Go.Proofs.Tryz
open Go.Sx
attribute [local irreducible] zAK Program.underlying Ylds zA3 alex zBc zBL awp zAc zBd zBi zBS zA5 zBT zBY zBe
theorem zHm{a b:Int}(h:a=b): D.val (.int .i64 a)=i64 b:=by rw[h]
theorem zUQ{a b:Int}(h:a=b): D.val (.int .u64 a)=u64 b:=by rw[h]
theorem tw1: (2:Int) ^ min (Int.toNat 1) IntKind.u64.bits=2:=by decide
theorem tw2: (2:Int) ^ min (Int.toNat 1) IntKind.i64.bits=2:=by decide
theorem zEE(n:Int): zAc prog 149 [i64 n] (i64 (W n)):=by
 refine zAX func149 rfl ntmps149 results149 rfl ?_
 intro wb St0
 repeat' first|apply en_n|apply zAE|apply zAA|apply zAD|apply w0|(apply zK3;exact rfl;(first|with_reducible exact si64|with_reducible exact su64|with_reducible exact su8|with_reducible exact si32);(first|with_reducible exact ui64|with_reducible exact uu64|with_reducible exact uu8|with_reducible exact ui32))|(apply zWC;exact rfl;exact rfl;exact(by decide))|(apply zWB;exact rfl;exact rfl;exact(by decide))|apply ay (hd:=rfl)|exact zAC rfl|exact zAB rfl|apply zAM|apply zAL|refine res1 rfl ?_
 refine zHm ?_
 rw[tw1,tw2,Int.fdiv_eq_ediv_of_nonneg _ (by decide),zDX,zDX,zFF,W]
 omega
theorem zS1(a b:Int): zAc prog 90 [i64 a,i64 b] (i64 (W (a-b))):=by
 refine zAX func90 rfl ntmps90 results90 rfl ?_
 intro wb St0
 repeat' first|apply en_n|apply zAE|apply zAA|apply zAD|apply w0|(apply zK3;exact rfl;(first|with_reducible exact si64|with_reducible exact su64|with_reducible exact su8|with_reducible exact si32);(first|with_reducible exact ui64|with_reducible exact uu64|with_reducible exact uu8|with_reducible exact ui32))|(apply zVQ (k:=.u64);exact rfl;exact rfl)|(refine zAU zEJ (zEE _) (CoLA rfl))|apply ay (hd:=rfl)|exact zAC rfl|exact zAB rfl|apply zAM|apply zAL|refine res1 rfl ?_
 refine zHm ?_
 rw[zDX,zDX,zDX,zFF,W,W]
 omega
theorem zS2(a b:Int): zAc prog 92 [i64 a,i64 b] (i64 (W (a*b))):=by
 refine zAX func92 rfl ntmps92 results92 rfl ?_
 intro wb St0
 repeat' first|apply en_n|apply zAE|apply zAA|apply zAD|apply w0|(apply zK3;exact rfl;(first|with_reducible exact si64|with_reducible exact su64|with_reducible exact su8|with_reducible exact si32);(first|with_reducible exact ui64|with_reducible exact uu64|with_reducible exact uu8|with_reducible exact ui32))|(apply zVS (k:=.u64);exact rfl;exact rfl)|(refine zAU zEJ (zEE _) (CoLA rfl))|apply ay (hd:=rfl)|exact zAC rfl|exact zAB rfl|apply zAM|apply zAL|refine res1 rfl ?_
 refine zHm ?_
 rw[zDX,zDX,zDX,<-Int.mul_emod,zFF,W,W]
 omega
theorem zQx{L:List Int}{i:Nat}{v:Int}(h:L[i]?=some v): (L.take (i+1)).sum=(L.take i).sum+v:=by
 rw[qA3,h,List.sum_append];simp
theorem zS0(L:List Int)(hL:L.length<=1000000): zAc prog 148 [ints L] (i64 (W L.sum)):=by
 refine zAX func148 rfl ntmps148 results148 rfl ?_
 intro wb St0
 repeat' first|apply en_n|apply zAE|apply zAA|apply zAD|apply w0|apply ay (hd:=rfl)|exact zAC rfl|exact zAB rfl|exact zAo rfl zTu|apply zAI
 refine zAv (α:=Nat) (fun i=>i<=L.length) (fun i=>[(3,.d (u64 ((L.take i).sum%18446744073709551616))),(6,.d (ints L)),(7,.d (i64 (L.length:Int))),(8,.d (i64 (i:Int)))]) (fun _=>[]) (fun i=>L.length-i) 0 (qAR _)
   (zAV (Le_d rfl (by simp) (Le_all rfl)) zAW rfl rfl) ?_
 rintro i hi
 repeat' first|apply en_n|apply zAE|apply zAA|apply zAD|apply w0|(apply zK3;exact rfl;(first|with_reducible exact si64|with_reducible exact su64|with_reducible exact su8|with_reducible exact si32);(first|with_reducible exact ui64|with_reducible exact uu64|with_reducible exact uu8|with_reducible exact ui32))|(apply zSr (k:=.u64);exact rfl;exact rfl)|(refine zAU zEJ (zEE _) (CoLA rfl))|(apply aI (hd:=rfl);(first|exact zAq rfl|exact Co_bb rfl rfl rfl|exact Co_nn rfl);exact rfl;(with_reducible exact zPp);exact fun _=>rfl;rotate_left;intro v hv;rotate_right)|apply ay (hd:=rfl)|exact zAC rfl|exact zAB rfl|exact zAR rfl zST|exact zCs rfl rfl|refine zBE rfl rfl ?_|(apply zAw;exact rfl;all_goals intro hb)|apply zAI|apply zAO|apply zAM|apply zA0|apply en_e|apply eb_n|apply eb_e|apply zAL|refine res1 rfl ?_
 ·omega
 ·omega
 ·refine⟨i+1,by omega,by omega,zAV (Le_d rfl (zUQ ?_).symm (Le_all rfl)) zAW rfl rfl⟩
  rw[zQx (i:=i) hv,zDX,zDX]
  omega
 ·refine zHm ?_
  have:L.take i=L:=qAn (by omega)
  rw[this,zFF,W,W]
  omega
theorem zS3(a b:Int): zAc prog 88 [i64 a,i64 b] (i64 (W (a+b))):=by
 refine zAX func88 rfl ntmps88 results88 rfl ?_
 intro wb St0
 repeat' first|apply en_n|apply zAE|apply zAA|apply zAD|apply w0|(refine zAU zTV (zS0 [a,b] (by simp)) (CoLA rfl))|apply ay (hd:=rfl)|exact zAC rfl|exact zAB rfl|(apply zQd;(with_reducible exact zRk);(with_reducible exact zPp);(with_reducible exact zUN);exact rfl;exact rfl;(first|exact zAP rfl (zAP rfl zAF)|exact zEC rfl rfl rfl (zEC rfl rfl rfl zAF));exact rfl)|apply zAM|apply zAL|refine res1 rfl ?_
 refine zHm ?_
 simp
theorem zHy{k:Nat}(h:k<10): (UInt8.ofNat (48+k)).toNat=48+k:=by
 rw[UInt8.toNat_ofNat'];omega
theorem zRw(u:Nat): ∀d∈Lib.decDigits u,48<=d.toNat/\d.toNat<=57:=by
 induction u using Nat.strongRecOn with
 |_ u ih =>
  intro d hd
  rw[Lib.decDigits]at hd
  split at hd
  ·rename_i h
   rw[List.mem_singleton]at hd
   rw[hd,zHy h];omega
  ·rename_i h
   rcases qAx.1 hd with hd|hd
   ·exact ih (u / 10) (by omega) d hd
   ·rw[List.mem_singleton]at hd
    rw[hd,zHy (Nat.mod_lt _ (by decide))];omega
def shw(n:Int): List UInt8:=if n<0 then 126::Lib.decDigits n.natAbs else Lib.decDigits n.natAbs
theorem zUV(n:Int): Lib.replace (Lib.itoa n) [45] [126] 1=shw n:=by
 rw[Lib.replace,if_neg (by decide)]
 unfold Lib.itoa shw
 split
 ·rename_i h
  have h1:Lib.replaceNum (45::Lib.decDigits n.natAbs) [45] 1=1:=by
   rw[Lib.replaceNum,Lib.count_cons_eq,if_neg (by omega)];rfl
  rw[h1,Lib.replaceK_hit [45] [126] 0 _ 0 (by rw[Lib.index];rfl)]
  simp[Lib.replaceK]
 ·rename_i h
  have h2:Lib.count (Lib.decDigits n.toNat) [45]=0:=by
   rw[Lib.count_one,List.count_eq_zero]
   intro hm
   have:=zRw _ _ hm
   exact absurd this.1 (by decide)
  have h1:Lib.replaceNum (Lib.decDigits n.toNat) [45] 1=0:=by
   rw[Lib.replaceNum,h2,if_pos (by omega)]
  rw[h1,Lib.replaceK,show n.toNat=n.natAbs by omega]
theorem zUS{a b:List UInt8}(h:a=b): str a=str b:=by rw[h]
theorem zQs(n:Int): zAc prog 107 [i64 n] (str (shw (W n))):=by
 have hw:=W_bd n
 refine zAX func107 rfl ntmps107 results107 rfl ?_
 intro wb St0
 repeat' first|apply en_n|apply zAE|apply zAA|apply zAD|apply w0|(refine zAU zEJ (zEE _) (CoLA rfl))|(refine zAU zKJ (zK6 (W n) (by omega) (by omega)) (CoLA rfl))|(refine zAU zNU (zN3 (Lib.itoa (W n)) [45] [126] 1 (by decide) (qAi (Lib.itoa_length_le (W n) (by omega) (by omega)) (by decide)) (by decide)) (CoLA rfl))|apply ay (hd:=rfl)|exact zAC rfl|exact zAB rfl|apply zAM|apply zAL|refine res1 rfl ?_
 exact zUS (zUV _)
end Go.Proofs.YtjcgiiedaccjpaaGreatDoor
namespace Go.Proofs.YtjcgiiedaccjpaaGreatDoor
open Go.Sx
attribute [local irreducible] zAK Program.underlying Ylds zA3 alex zBc zBL awp zAc zBd zBi zBS zA5 zBT zBY zBe

open _root_.Go.Proofs.Tryz
theorem zWG(x:Int): W (IntKind.i64.wrap x)=W x:=by rw[zFF,W,W];omega
def divV(a b:Int): Int:=if W b=0 then 0 else W ((W a).tdiv (W b))
def modV(a b:Int): Int:=if W b=0 then 0 else(W a).tmod (W b)
def zQo(b:Int): Int:=if W b=0 then 10 else 0
theorem zE0{b:Int}(h:W b=0): zQo b=10:=if_pos h
theorem zE1{b:Int}(h:¬W b=0): zQo b=0:=if_neg h
theorem zOJ(a b:Int): zAc prog 94 [i64 a,i64 b] (.tup [i64 (divV a b),i64 (zQo b)]):=by
 refine zAX func94 rfl ntmps94 results94 rfl ?_
 intro wb St0
 repeat' first|apply en_n|apply zAE|apply zAA|apply zAD|apply w0|(refine zAU zEJ (zEE _) (CoLA rfl))|(apply zVR;exact rfl;exact rfl;assumption)|apply ay (hd:=rfl)|exact zAC rfl|exact zAB rfl|exact zEA rfl rfl|(apply zAw;exact rfl;all_goals intro hb)|apply zAO|apply zAM|apply en_r|apply zAL|(apply res2;exact rfl;exact rfl)
 all_goals refine zHm ?_
 ·rw[divV,if_pos hb]
 ·rw[zE0 hb]
 ·rw[divV,if_neg hb];exact zWG _
 ·rw[zE1 hb]
theorem zOI(a b:Int): zAc prog 97 [i64 a,i64 b] (.tup [i64 (modV a b),i64 (zQo b)]):=by
 refine zAX func97 rfl ntmps97 results97 rfl ?_
 intro wb St0
 repeat' first|apply en_n|apply zAE|apply zAA|apply zAD|apply w0|(refine zAU zEJ (zEE _) (CoLA rfl))|(apply zSK;exact rfl;exact rfl;assumption)|apply ay (hd:=rfl)|exact zAC rfl|exact zAB rfl|exact zEA rfl rfl|(apply zAw;exact rfl;all_goals intro hb)|apply zAO|apply zAM|apply en_r|apply zAL|(apply res2;exact rfl;exact rfl)
 all_goals refine zHm ?_
 ·rw[modV,if_pos hb]
 ·rw[zE0 hb]
 ·rw[modV,if_neg hb]
 ·rw[zE1 hb]
