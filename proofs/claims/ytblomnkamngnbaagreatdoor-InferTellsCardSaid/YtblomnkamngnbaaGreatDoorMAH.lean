/- Texts of this claim, merged: NodC, NodG, TypF, NodP, NodT, SynF, SynS, SynG, TypU. -/
import Derived.Shelf.Sort.Plain
import Derived.Shelf.Slices.In.SortNone
import Derived.Lib.SlicesCompact
import Derived.Test.YtblomnkamngnbaaGreatDoorMAB
import Derived.Test.YtblomnkamngnbaaGreatDoorMAC
import Derived.Test.YtblomnkamngnbaaGreatDoorMAF
import Derived.Test.YtblomnkamngnbaaGreatDoorMAG
namespace Go.Proofs.YtblomnkamngnbaaGreatDoor
open Go.Sx Go.RowKit
attribute [local irreducible] Ylds zBA alex zBe zBP awp zAj zBZ zBk zA2 zBH zBR zA8 zBV zBb zBf
theorem zEt (L : List Nd) (at_ : Int) (hL : L.length ≤ 2000000) : zAj Tryz.prog 27 [zAc L,i64 at_] (zBm (zBX L at_)):=by
  refine zAd Tryz.func27 rfl Tryz.ntmps27 Tryz.results27 rfl ?_
  intro wb St0
  repeat' first | apply en_n|apply zAH|apply zAB|apply zAF|apply w0|(apply zMY (hd:=rfl) (hro:=rfl);exact zC2;exact zA7;exact zIu;exact rfl)|(apply zAV (hb:=zIT) (hc:=rEnd L _ hL))|apply ay (hd:=rfl)|exact zAE rfl|exact zAC rfl|exact zCT rfl rfl|(apply zBC;exact rfl;exact rfl)|exact zAb rfl|exact zAw rfl|exact zAm rfl|(apply zAz;exact rfl;(intro hb);rotate_left;(intro hb);rotate_right)|apply zAI|apply zAP|apply zAM|apply en_r|apply zAJ|(apply zGx;exact rfl;exact rfl;(first|exact rfl|(simp;done)))|exact zAG|refine zAX rfl ?_
  · rw [zBX,if_pos hb];rfl
  · have:=zE0 L at_;omega
  · obtain ⟨k,x,hak,hx,h0,h1,he,hn,hf⟩:=zK2 hb
    subst hak
    refine zAr (α:=Nat) (fun i=>i ≤ x.kids.toNat ∧ 0 ≤ seqE L ((k : Int) + 1) i) (fun i=>[(0,.d (zAc L)),(1,.d (i64 (k : Int))),(5,.buf 0 (((List.range i).map (seqE L ((k : Int) + 1))).map ival).length),(6,.d (i64 (seqE L ((k : Int) + 1) i))),(7,.d (i64 (i : Int)))])
      (fun i=>[.buf false 3 1 (((List.range i).map (seqE L ((k : Int) + 1))).map ival)]) (fun i=>x.kids.toNat - i) 0 ⟨Nat.zero_le _,by simp only [seqE];omega⟩
      (zAO (zAA rfl (zAA rfl (zAA rfl (zAA rfl (zAA rfl zAa))))) (zAD rfl rfl zAN) rfl rfl) ?_
    rintro i ⟨hi1,hi2⟩
    have hg:=zH5 hi2
    have hk:=(List.getElem?_eq_some_iff.1 hx).1
    repeat' first | apply en_n|apply zAH|apply zAB|apply zAF|apply w0|(apply zAV (hb:=zIT) (hc:=rEnd L _ hL))|(apply aJ (hd:=rfl);(first|exact zAk rfl|exact Co_bb rfl rfl rfl|exact Co_nn rfl);exact rfl;(with_reducible exact zAW);assumption;omega;exact fun _=>rfl)|(apply aApp (hd:=rfl) (hro:=rfl);exact rfl;exact rfl;(first|exact zAk rfl|exact Co_bb rfl rfl rfl|exact Co_nn rfl);(first|exact rfl|(simp;done));exact rfl;(with_reducible exact zC2);(with_reducible exact zA7);(with_reducible exact zIv);(with_reducible exact zHC);(first|exact zCF (fun _=>rfl)|exact zCE rfl))|apply ay (hd:=rfl)|exact zAE rfl|exact zAC rfl|(apply zAy;exact rfl;(with_reducible exact fn_3))|(apply zAg;exact rfl;(with_reducible exact zAs))|exact zCT rfl rfl|(apply zBC;exact rfl;exact rfl)|exact zAw rfl|exact zAm rfl|(apply zCC;(with_reducible exact zC2);(with_reducible exact zA7);(with_reducible exact zIu);exact rfl;exact rfl;(first|exact zAX rfl zAG|exact zC4 rfl rfl rfl zAG|exact zDG rfl zAG);exact rfl)|(apply zAz;exact rfl;(intro hb);rotate_left;(intro hb);rotate_right)|apply zAI|apply zAP|apply zAM|apply zAt|apply en_e|apply eb_n|apply eb_e|apply zAJ|(apply zGx;exact rfl;exact rfl;(first|exact rfl|(simp;done)))|exact zAG|refine zAX rfl ?_
    · simp only [List.length_map,List.length_range,List.length_singleton];omega
    · omega
    · have h3 : 0 ≤ seqE L ((k : Int) + 1) (i + 1):=by
        rcases Int.lt_or_le (seqE L ((k : Int) + 1) (i + 1)) 0 with h4 | h4
        · have:=zGI (j:=x.kids.toNat) h4 (by omega);omega
        · exact h4
      refine ⟨i + 1,⟨by omega,h3⟩,by omega,?_⟩
      refine zAO (zAA rfl (zAA rfl (zBt rfl ?_ (Le_d rfl ?_ (zAA rfl zAa))))) (zAu rfl rfl (zK1 _ i).symm zAN) rfl rfl
      · simp only [List.length_map,List.length_range,List.length_singleton]
      · rw [zD5 hi2]
    · rw [hf,show i = x.kids.toNat by omega];rfl
def subF (L : List Nd) (a : Int) : List Nd:=if endF L a < 0 then [] else (L.take (endF L a).toNat).drop a.toNat
def subE (L : List Nd) (a : Int) : Int:=if endF L a < 0 then 20 else 0
theorem zR1 {α : Type} {ys : List α} {n : Nat} {z : α} (h : ys.length = n) : ys.take (List.replicate n z).length ++ (List.replicate n z).drop ys.length = ys:=by
  subst h;simp
theorem zVF (L : List Nd) (at_ : Int) (hL : L.length ≤ 2000000) : zAj Tryz.prog 99 [zAc L,i64 at_] (.tup [zAc (subF L at_),i64 (subE L at_)]):=by
  refine zAd Tryz.func99 rfl Tryz.ntmps99 Tryz.results99 rfl ?_
  intro wb St0
  have hbd:=zE0 L at_
  repeat' first | apply en_n|apply zAH|apply zAB|apply zAF|apply w0|(refine zF9 22 0 rfl rfl rfl ?_)|(apply zAV (hb:=zFs) (hc:=zFx L _ hL))|(apply zVh (hd:=rfl) (hro:=rfl);exact rfl;exact rfl;(with_reducible exact zBd);(with_reducible exact zAW);(with_reducible exact zSv);exact rfl;exact rfl;(with_reducible exact zDP))|(refine zVj (sz:=4) (hro:=rfl) (hd:=(rfl : Nat.blt _ _ = true)) rfl rfl (List.length_replicate ..).symm (zAk rfl) ?_ (zCF (fun _=>rfl)) ?_;(with_reducible exact zAW))|apply ay (hd:=rfl)|exact zAE rfl|exact zAC rfl|exact zCT rfl rfl|(apply zIt;exact rfl;exact rfl)|exact zAb rfl|exact zAw rfl|exact zAm rfl|(apply Y_sl;(first|exact zAk rfl|exact Co_bb rfl rfl rfl|exact Co_nn rfl);(with_reducible exact zAW);exact rfl;exact rfl;exact fun _=>rfl)|(apply zAz;exact rfl;(intro hb);rotate_left;(intro hb);rotate_right)|apply zAP|apply zAM|apply en_r|apply zAJ|(apply zL7;exact rfl;exact rfl)|exact zAG|refine zAX rfl ?_
  · rw [subF,if_pos hb];rfl
  · rw [subE,if_pos hb]
  · omega
  · omega
  · omega
  · have hy : ((L.take (endF L at_).toNat).drop at_.toNat).length = (endF L at_ - at_).toNat:=by rw [List.length_drop,List.length_take];omega
    have hc:=zR1 (ys:=((L.take (endF L at_).toNat).drop at_.toNat).map Nd.av) (z:=Nd.av ⟨0,[],0,0⟩) (n:=(endF L at_ - at_).toNat) (by rw [List.length_map,hy])
    refine zS8 rfl rfl ?_ rfl ?_ ?_
    · exact ((congrArg List.length hc).trans (by rw [List.length_map,hy])).symm
    · rw [subF,if_neg hb];exact congrArg D.slice hc
    · rw [subE,if_neg hb]
theorem zPI (L : List Nd) (at_ : Int) (hL : L.length ≤ 2000000) (h : ¬ endF L at_ < 0) : zAj Tryz.prog 43 [zAc L,i64 at_] (zAc (subF L at_)):=by
  refine zAd Tryz.func43 rfl Tryz.ntmps43 Tryz.results43 rfl ?_
  intro wb St0
  have hbd:=zE0 L at_
  repeat' first | apply en_n|apply zAH|apply zAB|apply zAF|apply w0|(apply zMY (hd:=rfl) (hro:=rfl);exact zBd;exact zAW;exact zDQ;exact rfl)|(apply zAV (hb:=zIT) (hc:=rEnd L _ hL))|(apply aApp (hd:=rfl) (hro:=rfl);exact rfl;exact rfl;(first|exact zAk rfl|exact Co_bb rfl rfl rfl|exact Co_nn rfl);(first|exact rfl|(simp;done));exact rfl;(with_reducible exact zBd);(with_reducible exact zAW);(with_reducible exact zER);(with_reducible exact zDP);(first|exact zCF (fun _=>rfl)|exact zCE rfl))|apply ay (hd:=rfl)|exact zAE rfl|exact zAb rfl|exact zAm rfl|(apply Y_sl;(first|exact zAk rfl|exact Co_bb rfl rfl rfl|exact Co_nn rfl);(with_reducible exact zAW);exact rfl;exact rfl;exact fun _=>rfl)|apply zAM|apply zAJ|exact zAG|refine zAX rfl ?_
  · omega
  · simp only [List.length_map,List.length_drop,List.length_take];omega
  · refine zGx rfl rfl ?_ ?_
    · simp
    · rw [subF,if_neg h];rfl
end Go.Proofs.YtblomnkamngnbaaGreatDoor
namespace Go.Proofs.YtblomnkamngnbaaGreatDoor
open Go.Sx Go.RowKit
attribute [local irreducible] Ylds zBA alex zBe zBP awp zAj zBZ zBk zA2 zBH zBR zA8 zBV zBb zBf
def zPX (n : Nd) (KK : List (List Nd)) : List Nd:={ n with kids:=KK.length } :: KK.flatten
def mkC (n : Nd) (KK : List (List Nd)) (i : Nat) : List Nd:={ n with kids:=KK.length } :: (KK.take i).flatten
theorem zJx {n : Nd} {KK : List (List Nd)} {i : Nat} {v : List Nd} (hv : KK[i]? = some v) : (mkC n KK (i + 1)).map Nd.av = (mkC n KK i).map Nd.av ++ v.map Nd.av:=by
  simp [mkC,List.take_add_one,hv]
theorem zTG (n : Nd) (KK : List (List Nd)) (i : Nat) : (mkC n KK i).length ≤ KK.flatten.length + 1:=by
  have : KK.flatten = (KK.take i).flatten ++ (KK.drop i).flatten:=by rw [← List.flatten_append,List.take_append_drop]
  rw [this];simp only [mkC,List.length_cons,List.length_append];omega
theorem zQq (n : Nd) (KK : List (List Nd)) (h1 : KK.length ≤ 2000000) (h2 : KK.flatten.length ≤ 2000000) : zAj Tryz.prog 16 [n.av,zFr KK] (zAc (zPX n KK)):=by
  refine zAd Tryz.func16 rfl Tryz.ntmps16 Tryz.results16 rfl ?_
  intro wb St0
  repeat' first | apply en_n|apply zAH|apply zAB|apply zAF|apply w0|(apply zU2 (hd:=rfl) (hro:=rfl);exact zBd;exact zAW;exact zDQ;exact rfl;exact rfl;exact zAX rfl zAG;exact rfl)|(apply aBox (hd:=rfl) (hro:=rfl);exact rfl;exact rfl)|apply ay (hd:=rfl)|exact zAE rfl|(apply zAl;exact rfl;(with_reducible exact zGf))|exact zAb rfl|exact zAm rfl|(apply zAR;exact rfl;(with_reducible exact fn_3))|(apply zCt;exact rfl;(with_reducible exact zAY);exact rfl;exact rfl;exact rfl)|(refine w0' ?_)|(apply zAx;exact rfl;exact rfl;exact rfl;(with_reducible exact zAs);exact rfl;exact rfl;exact rfl;exact rfl)|apply zAI
  · refine zAr (α:=Nat) (fun i=>i ≤ KK.length) (fun i=>[(13,.d (zFr KK)),(14,.d (i64 (KK.length : Int))),(15,.d (i64 (i : Int))),(5,.buf 1 ((mkC n KK i).map Nd.av).length)])
      (fun i=>[.box [.d (.val (.int .i64 n.kind)),.d (.val (.string ⟨n.text.toArray⟩)),.d (.val (.int .i64 n.num)),.d (.val (.int .i64 KK.length))],.buf false 40 4 ((mkC n KK i).map Nd.av)]) (fun i=>KK.length - i) 0 (Nat.zero_le _)
      (zAO (zAA rfl (Le_d rfl rfl (zAA rfl (zBt rfl rfl zAa)))) (zAD rfl rfl (zAD rfl rfl zAN)) rfl rfl) ?_
    intro i hi
    repeat' first | apply en_n|apply zAH|apply zAB|apply zAF|apply w0|(apply aI (hd:=rfl);(first|exact zAk rfl|exact Co_bb rfl rfl rfl|exact Co_nn rfl);exact rfl;(with_reducible exact zCS);exact fun _=>rfl;rotate_left;intro v hv;rotate_right)|(apply aApp (hd:=rfl) (hro:=rfl);exact rfl;exact rfl;(first|exact zAk rfl|exact Co_bb rfl rfl rfl|exact Co_nn rfl);(first|exact rfl|(simp;done));exact rfl;(with_reducible exact zBd);(with_reducible exact zAW);(with_reducible exact zER);(with_reducible exact zDP);(first|exact zCF (fun _=>rfl)|exact zCE rfl))|apply ay (hd:=rfl)|exact zAE rfl|exact zAC rfl|(apply zAg;exact rfl;(with_reducible exact zAn))|exact zCT rfl rfl|(apply zBC;exact rfl;exact rfl)|exact zAw rfl|exact zAm rfl|(apply zAz;exact rfl;(intro hb);rotate_left;(intro hb);rotate_right)|apply zAI|apply zAP|apply zAM|apply zAt|apply en_e|apply eb_n|apply eb_e|apply zAJ|(apply zGx;exact rfl;exact rfl;(first|exact rfl|(simp;done)))
    · omega
    · have h3:=zTG n KK (i + 1)
      rw [← List.length_map (f:=Nd.av),zJx (i:=i) hv,List.length_append] at h3
      omega
    · omega
    · have hl : i < KK.length:=by omega
      refine ⟨i + 1,by omega,by omega,zAO (zAA rfl (zAA rfl (zAA rfl (zBt rfl ?_ zAa)))) (zAD rfl rfl (zAu rfl rfl (zJx (i:=i) hv) zAN)) rfl rfl⟩
      rw [zJx (i:=i) hv,List.length_append]
    · rw [zPX,show i = KK.length by omega,mkC,List.take_length];rfl
end Go.Proofs.YtblomnkamngnbaaGreatDoor
namespace Go.Proofs.YtblomnkamngnbaaGreatDoor
open Go.Sx Go.RowKit
theorem zFo : zBG Tryz.prog 128 = some 2:=by kernel_rfl
theorem zRy : (zB6 Tryz.prog 128).isSome = true:=by kernel_rfl
theorem zGe : zB6 Tryz.prog 128 = some 147:=by kernel_rfl
theorem fb_0 : zBN Tryz.prog 147 0 = some 0:=by kernel_rfl
theorem fb_1 : zBN Tryz.prog 147 1 = some 1:=by kernel_rfl
theorem fs_0 : zBN Tryz.prog 81 0 = some 0:=by kernel_rfl
theorem fs_1 : zBN Tryz.prog 81 1 = some 1:=by kernel_rfl
theorem zS2 : zBL Tryz.prog 147 = some (true,2):=by kernel_rfl
theorem zFD : zBL Tryz.prog 79 = some (false,1):=by kernel_rfl
theorem zMo : zBL Tryz.prog 123 = some (false,1):=by kernel_rfl
theorem zUC : zBL Tryz.prog 58 = some (false,1):=by kernel_rfl
theorem zS1 : zBL Tryz.prog 32 = some (false,1):=by kernel_rfl
theorem zOn : zDK Tryz.prog 147 = some 2:=by kernel_rfl
theorem zNe : zDF Tryz.prog 128 = some 32:=by kernel_rfl
theorem zOk : (zBo Tryz.prog 147).isSome = true:=by kernel_rfl
theorem zT2 : zBo Tryz.prog 123 = some [.map none]:=by kernel_rfl
theorem zT5 : zBo Tryz.prog 32 = some [.nilFunc]:=by kernel_rfl
theorem zHY : zDf Tryz.prog 79 = some (3,23):=by kernel_rfl
theorem zHX : zDf Tryz.prog 123 = some (2,3):=by kernel_rfl
theorem zE5 : Tryz.prog.underlying 2 = some (.int .i64):=by kernel_rfl
theorem zDp : zFy Tryz.prog 23 = some (.slice []):=by kernel_rfl
theorem zIw : zFy Tryz.prog 3 = some (.val (.int .i64 0)):=by kernel_rfl
theorem zRS : zCy Tryz.prog 81 = some [(0,1),(1,1)]:=by kernel_rfl
theorem zQ3 : zBo Tryz.prog 81 = some [.int .i64 0,.map none]:=by kernel_rfl
theorem zPO : zCy Tryz.prog 147 = some [(0,1),(1,1)]:=by kernel_rfl
theorem zOm : zBo Tryz.prog 147 = some [.int .i64 0,.slice none 0 0]:=by kernel_rfl
theorem zFF : zCy Tryz.prog 40 = some [(0,1),(1,1),(2,1),(3,1)]:=by kernel_rfl
theorem zE6 : zCy Tryz.prog 68 = some [(0,1),(1,1),(2,1),(3,1)]:=by kernel_rfl
theorem zRm : zAT Tryz.prog 52 = true:=by kernel_rfl
theorem zCK : zAT Tryz.prog 31 = true:=by kernel_rfl
theorem zPu : zAT Tryz.prog 51 = true:=by kernel_rfl
theorem zUg : zAT Tryz.prog 50 = true:=by kernel_rfl
theorem zUd : zAT Tryz.prog 93 = true:=by kernel_rfl
theorem zUe : zAT Tryz.prog 133 = true:=by kernel_rfl
theorem zPv : zAT Tryz.prog 134 = true:=by kernel_rfl
theorem zNT : zAT Tryz.prog 114 = true:=by kernel_rfl
theorem zIX : zAT Tryz.prog 71 = true:=by kernel_rfl
theorem zRr : zAT Tryz.prog 40 = true:=by kernel_rfl
theorem zKE : zAT Tryz.prog 55 = true:=by kernel_rfl
theorem zIR : zAT Tryz.prog 130 = true:=by kernel_rfl
theorem zMH : zAT Tryz.prog 41 = true:=by kernel_rfl
theorem zJ5 : zAT Tryz.prog 74 = true:=by kernel_rfl
theorem zRl : zAT Tryz.prog 75 = true:=by kernel_rfl
theorem zRk : zAT Tryz.prog 76 = true:=by kernel_rfl
theorem zRj : zAT Tryz.prog 77 = true:=by kernel_rfl
theorem zTP : zAT Tryz.prog 18 = true:=by kernel_rfl
theorem zIY : zAT Tryz.prog 37 = true:=by kernel_rfl
theorem zNS : zAT Tryz.prog 109 = true:=by kernel_rfl
theorem zLH : zAT Tryz.prog 110 = true:=by kernel_rfl
theorem zG8 : zAT Tryz.prog 62 = true:=by kernel_rfl
theorem zJ6 : zAT Tryz.prog 131 = true:=by kernel_rfl
theorem zJ4 : zAT Tryz.prog 107 = true:=by kernel_rfl
theorem zNJ : zAT Tryz.prog 108 = true:=by kernel_rfl
theorem zDN : zAT Tryz.prog 157 = true:=by kernel_rfl
theorem zPp : zAT Tryz.prog 158 = true:=by kernel_rfl
theorem zNO : zAT Tryz.prog 173 = true:=by kernel_rfl
def arrT : List UInt8:=[45,62]
def intT : List UInt8:=[105,110,116]
def texT : List UInt8:=[116,101,120,116]
def refT : List UInt8:=[114,101,102]
def zBT (n : Nd) : Bool :=
  if n.kind = 31 then decide (n.kids = 0 ∧ n.text = [] ∧ 0 ≤ n.num ∧ n.num ≤ 1048576)
  else if n.kind ≠ 32 ∨ n.num ≠ 0 then false
  else if n.text = arrT then decide (n.kids = 2)
  else if n.text = intT ∨ n.text = texT then decide (n.kids = 0)
  else if n.text = refT then decide (n.kids = 1)
  else zDd ⟨2,n.text,0,0⟩ && decide (n.kids ≤ 8)
def okT (L : List Nd) : Bool:=decide (L.length ≤ 4000) && zCA L && L.all zBT
def ckT (L : List Nd) : Int:=if okT L then 0 else 90
structure Bd where
  var : Int
  ty : List Nd
def Bd.av (b : Bd) : D:=.agg [.val (.int .i64 b.var),zAc b.ty]
def binds (l : List Bd) : D:=.slice (l.map Bd.av)
def addV (acc : List Int) (n : Nd) : List Int:=if n.kind = 31 ∧ n.num ∉ acc then acc ++ [n.num] else acc
def zB3 (L : List Nd) : List Int:=L.foldl addV []
def zCh (L : List Nd) : List Int:=if okT L then zB3 L else []
def can1 (vs : List Int) (n : Nd) : Nd:=if n.kind = 31 then { n with num:=idxF vs n.num } else n
def zCm (L : List Nd) : List Nd:=if okT L then L.map (can1 (zB3 L)) else []
def app1 (l : List Bd) (n : Nd) : List Nd:=if n.kind = 31 then (match l.find? fun b=>b.var = n.num with | some b=>b.ty | none=>[n]) else [n]
def zFt (l : List Bd) (L : List Nd) : List Nd:=L.flatMap (app1 l)
def varN (n : Int) : List Nd:=[⟨31,[],n,0⟩]
end Go.Proofs.YtblomnkamngnbaaGreatDoor
namespace Go.Proofs.YtblomnkamngnbaaGreatDoor
def cns : List Nd → Nat → Option Nat
  | _,0=>some 0
  | [],_ + 1=>none
  | x :: r,o + 1=>if x.kids < 0 then none else (cns r (o + x.kids.toNat)).map (· + 1)
theorem zDv (l : List Nd) : cns l 0 = some 0:=by cases l <;> rfl
theorem zCl (x : Nd) (r : List Nd) (o : Nat) : cns (x :: r) (o + 1) = if x.kids < 0 then none else (cns r (o + x.kids.toNat)).map (· + 1):=rfl
theorem zLd : ∀ {l : List Nd} {o k : Nat},cns l o = some k → k ≤ l.length
  | l,0,k,h=>by rw [zDv] at h;injection h with h;omega
  | [],o + 1,k,h=>by cases h
  | x :: r,o + 1,k,h=>by
    rw [zCl] at h
    split at h
    · cases h
    · cases hc : cns r (o + x.kids.toNat) with
      | none=>rw [hc] at h;cases h
      | some j=>rw [hc] at h;have:=zLd hc;simp at h;simp;omega
theorem zHr : ∀ {l : List Nd} {o k : Nat},cns l o = some k → o ≤ k
  | l,0,k,h=>by omega
  | [],o + 1,k,h=>by cases h
  | x :: r,o + 1,k,h=>by
    rw [zCl] at h
    split at h
    · cases h
    · cases hc : cns r (o + x.kids.toNat) with
      | none=>rw [hc] at h;cases h
      | some j=>rw [hc] at h;have:=zHr hc;simp at h;omega
theorem zC3 : ∀ {l : List Nd} {o k : Nat} (m : List Nd),cns l o = some k → cns (l ++ m) o = some k
  | l,0,k,m,h=>by rw [zDv] at h ⊢;exact h
  | [],o + 1,k,m,h=>by cases h
  | x :: r,o + 1,k,m,h=>by
    rw [List.cons_append,zCl] at *
    split at h
    · cases h
    · rename_i h0
      rw [if_neg h0]
      cases hc : cns r (o + x.kids.toNat) with
      | none=>rw [hc] at h;cases h
      | some j=>rw [hc] at h;rw [zC3 m hc];exact h
theorem zNb : ∀ {l : List Nd} {o k : Nat},cns l o = some k → cns (l.take k) o = some k
  | l,0,k,h=>by rw [zDv] at h ⊢;exact h
  | [],o + 1,k,h=>by cases h
  | x :: r,o + 1,k,h=>by
    rw [zCl] at h
    split at h
    · cases h
    · rename_i h0
      cases hc : cns r (o + x.kids.toNat) with
      | none=>rw [hc] at h;cases h
      | some j =>
        rw [hc] at h;simp at h;subst h
        rw [List.take_succ_cons,zCl,if_neg h0,zNb hc];rfl
theorem zHB : ∀ (l : List Nd) (a b : Nat),cns l (a + b) = (cns l a).bind fun k=>(cns (l.drop k) b).map (· + k)
  | l,0,b=>by rw [zDv];simp
  | [],a + 1,b=>by rw [show a + 1 + b = a + b + 1 by omega];rfl
  | x :: r,a + 1,b=>by
    rw [show a + 1 + b = a + b + 1 by omega,zCl,zCl]
    split
    · rfl
    · rw [show a + b + x.kids.toNat = a + x.kids.toNat + b by omega,zHB r (a + x.kids.toNat) b]
      cases cns r (a + x.kids.toNat) with
      | none=>rfl
      | some j =>
        simp only [Option.bind_some,Option.map_some,List.drop_succ_cons,Option.map_map]
        congr 1
theorem zLX (n : Nat) : ∀ (l : List Nd) (o : Nat) (a : Int),l.length ≤ n → zEH n l ((o : Int) + 1) a = match cns l (o + 1) with
    | some k=>a + k
    | none=>-1
  | [],o,a,_=>rfl
  | x :: r,o,a,hn=>by
    simp only [List.length_cons] at hn
    rw [zCl]
    unfold zEH
    by_cases h0 : x.kids < 0
    · rw [if_pos (.inl h0),if_pos h0]
    · rw [if_neg h0]
      by_cases h1 : x.kids > n
      · rw [if_pos (.inr h1)]
        cases hc : cns r (o + x.kids.toNat) with
        | none=>rfl
        | some j=>have:=zHr hc;have:=zLd hc;omega
      · rw [if_neg (by omega)]
        by_cases h2 : (o : Int) + 1 + (x.kids - 1) > 0
        · rw [if_pos h2]
          obtain ⟨q,hq⟩ : ∃ q : Nat,o + x.kids.toNat = q + 1:=⟨o + x.kids.toNat - 1,by omega⟩
          rw [hq,show (o : Int) + 1 + (x.kids - 1) = (q : Int) + 1 by omega,zLX n r q (a + 1) (by omega)]
          cases cns r (q + 1) with
          | none=>rfl
          | some k=>show a + 1 + (k : Int) = a + ((k + 1 : Nat) : Int);omega
        · rw [if_neg h2,show o + x.kids.toNat = 0 by omega,zDv];simp
theorem zNZ (L : List Nd) (a : Nat) : endF L (a : Int) = match cns (L.drop a) 1 with
    | some k=>(a : Int) + k
    | none=>-1:=by
  rw [endF,if_neg (by omega),Int.toNat_natCast]
  have:=zLX L.length (L.drop a) 0 a (by rw [List.length_drop];omega)
  simpa using this
theorem zDb (L : List Nd) : zCA L = true ↔ cns L 1 = some L.length:=by
  have h:=zNZ L 0
  simp only [List.drop_zero] at h
  rw [zCA,show (0 : Int) = ((0 : Nat) : Int) from rfl,h]
  cases hc : cns L 1 with
  | none=>simp
  | some k =>
    have:=zHr hc
    have:=zLd hc
    simp;omega
theorem zKJ {L : List Nd} {n k : Nat} (h : cns (L.drop n) 1 = some k) : endF L (n : Int) = n + k:=by rw [zNZ,h]
def zI2 : Int → List (List Nd) → List Int
  | _,[]=>[]
  | b,K :: KK=>b :: zI2 (b + K.length) KK
theorem zKc : ∀ (j : Nat) {l : List Nd} {k : Nat},cns l j = some k → ∃ KK : List (List Nd),KK.length = j ∧ KK.flatten = l.take k ∧ ∀ K ∈ KK,cns K 1 = some K.length
  | 0,l,k,h=>by rw [zDv] at h;injection h with h;subst h;exact ⟨[],rfl,by simp,by simp⟩
  | j + 1,l,k,h=>by
    rw [show j + 1 = 1 + j by omega,zHB] at h
    cases h1 : cns l 1 with
    | none=>rw [h1] at h;cases h
    | some k1 =>
      rw [h1] at h;simp only [Option.bind_some] at h
      cases h2 : cns (l.drop k1) j with
      | none=>rw [h2] at h;cases h
      | some k2 =>
        rw [h2] at h;simp only [Option.map_some,Option.some.injEq] at h;subst h
        obtain ⟨KK,e1,e2,e3⟩:=zKc j h2
        have hl:=zLd h1
        refine ⟨l.take k1 :: KK,by simp [e1],?_,?_⟩
        · rw [List.flatten_cons,e2,Nat.add_comm k2 k1,List.take_add]
        · intro K hK
          rcases List.mem_cons.1 hK with rfl | hK
          · rw [zNb h1,List.length_take];congr 1;omega
          · exact e3 K hK
theorem zJN : ∀ (KK : List (List Nd)),(∀ K ∈ KK,cns K 1 = some K.length) → cns KK.flatten KK.length = some KK.flatten.length
  | [],_=>by rw [List.length_nil,zDv];rfl
  | K :: KK,h=>by
    have h1:=h K (by simp)
    have h2:=zJN KK (fun K' hK=>h K' (by simp [hK]))
    rw [List.length_cons,Nat.add_comm,zHB,List.flatten_cons,zC3 _ h1]
    simp only [Option.bind_some,List.drop_left,h2,Option.map_some,List.length_append,Option.some.injEq];omega
theorem zO5 {L : List Nd} {n : Nat} {KK : List (List Nd)} {R : List Nd} (hd : L.drop n = KK.flatten ++ R) (hw : ∀ K ∈ KK,cns K 1 = some K.length) : ∀ i,i ≤ KK.length → seqE L (n : Int) i = (n : Int) + ((KK.take i).flatten.length : Nat)
  | 0,_=>by simp [seqE]
  | i + 1,hi=>by
    have ih:=zO5 hd hw i (by omega)
    rw [zD5 (by omega),ih]
    have hK : KK[i]? = some KK[i]:=List.getElem?_eq_getElem (by omega)
    have h1:=hw KK[i] (List.getElem_mem _)
    have hdr : L.drop (n + (KK.take i).flatten.length) = KK[i] ++ ((KK.drop (i + 1)).flatten ++ R):=by
      rw [← List.drop_drop,hd]
      conv=>lhs;rw [← List.take_append_drop i KK,List.flatten_append,List.append_assoc]
      rw [List.drop_append_of_le_length (by simp),List.drop_of_length_le (by simp),List.nil_append,List.drop_eq_getElem_cons (by omega),List.flatten_cons,List.append_assoc]
    have h2:=zKJ (L:=L) (n:=n + (KK.take i).flatten.length) (by rw [hdr];exact zC3 _ h1)
    rw [show (n : Int) + ((KK.take i).flatten.length : Nat) = ((n + (KK.take i).flatten.length : Nat) : Int) by omega,h2]
    have h9 : (KK.take (i + 1)).flatten.length = (KK.take i).flatten.length + KK[i].length:=by
      rw [List.take_add_one,hK,List.flatten_append,List.length_append];simp
    omega
theorem zH4 : ∀ (KK : List (List Nd)) (b : Int),zI2 b KK = (List.range KK.length).map (fun i=>b + ((KK.take i).flatten.length : Nat))
  | [],b=>rfl
  | K :: KK,b=>by
    rw [List.length_cons,List.range_succ_eq_map,List.map_cons,List.map_map,zI2,zH4 KK]
    simp [Function.comp_def]
    intro i _;omega
theorem zTI {L : List Nd} {n : Nat} {KK : List (List Nd)} {R : List Nd} (hd : L.drop n = KK.flatten ++ R) (hw : ∀ K ∈ KK,cns K 1 = some K.length) {i : Nat} {K : List Nd} (hK : KK[i]? = some K) : endF L ((n : Int) + ((KK.take i).flatten.length : Nat)) = (n : Int) + ((KK.take i).flatten.length : Nat) + (K.length : Nat) ∧ L.drop (n + (KK.take i).flatten.length) = K ++ ((KK.drop (i + 1)).flatten ++ R):=by
  obtain ⟨hi,rfl⟩:=List.getElem?_eq_some_iff.1 hK
  have h1:=hw KK[i] (List.getElem_mem _)
  have hdr : L.drop (n + (KK.take i).flatten.length) = KK[i] ++ ((KK.drop (i + 1)).flatten ++ R):=by
    rw [← List.drop_drop,hd]
    conv=>lhs;rw [← List.take_append_drop i KK,List.flatten_append,List.append_assoc]
    rw [List.drop_append_of_le_length (by simp),List.drop_of_length_le (by simp),List.nil_append,List.drop_eq_getElem_cons (by omega),List.flatten_cons,List.append_assoc]
  have h2 : cns (L.drop (n + (KK.take i).flatten.length)) 1 = some KK[i].length:=by rw [hdr];exact zC3 _ h1
  have h4:=zKJ h2
  rw [show (n : Int) + ((KK.take i).flatten.length : Nat) = ((n + (KK.take i).flatten.length : Nat) : Int) by omega]
  exact ⟨h4,hdr⟩
structure Node (L : List Nd) (n : Nat) (x : Nd) (KK : List (List Nd)) (R : List Nd) : Prop where
  drop : L.drop n = x :: (KK.flatten ++ R)
  kids : x.kids = KK.length
  whole : ∀ K ∈ KK,cns K 1 = some K.length
theorem Node.cnsEq {L : List Nd} {n : Nat} {x : Nd} {KK : List (List Nd)} {R : List Nd} (h : Node L n x KK R) : cns (L.drop n) 1 = some (KK.flatten.length + 1):=by
  rw [h.drop,zCl,if_neg (by have:=h.kids;omega),show 0 + x.kids.toNat = KK.length by have:=h.kids;omega,zC3 _ (zJN KK h.whole)];rfl
theorem Node.at {L : List Nd} {n : Nat} {x : Nd} {KK : List (List Nd)} {R : List Nd} (h : Node L n x KK R) : L[n]? = some x:=by
  have:=congrArg (·[0]?) h.drop
  simpa using this
theorem Node.next {L : List Nd} {n : Nat} {x : Nd} {KK : List (List Nd)} {R : List Nd} (h : Node L n x KK R) : L.drop (n + 1) = KK.flatten ++ R:=by
  rw [← List.drop_drop,h.drop];rfl
theorem Node.kidsEq {L : List Nd} {n : Nat} {x : Nd} {KK : List (List Nd)} {R : List Nd} (h : Node L n x KK R) : zBX L (n : Int) = zI2 ((n : Int) + 1) KK:=by
  have h1:=zKJ h.cnsEq
  rw [zBX,if_neg (by omega),zH4,show zOE L (n : Int) = KK.length by rw [zOE,Int.toNat_natCast,h.at];have:=h.kids;simp only;omega]
  refine List.map_congr_left fun i hi=>?_
  rw [List.mem_range] at hi
  have:=zO5 h.next h.whole i (by omega)
  rw [show ((n + 1 : Nat) : Int) = (n : Int) + 1 by omega] at this
  exact this
theorem zMA {L : List Nd} {n k : Nat} (h : cns (L.drop n) 1 = some k) : ∃ x KK R,Node L n x KK R ∧ k = KK.flatten.length + 1:=by
  cases hl : L.drop n with
  | nil=>rw [hl] at h;cases h
  | cons x r =>
    rw [hl,zCl] at h
    split at h
    · cases h
    · rename_i h0
      cases hc : cns r (0 + x.kids.toNat) with
      | none=>rw [hc] at h;cases h
      | some j =>
        rw [hc] at h;simp at h;subst h
        obtain ⟨KK,e1,e2,e3⟩:=zKc _ hc
        have:=zLd hc
        refine ⟨x,KK,r.drop j,⟨by rw [e2,List.take_append_drop,hl],by rw [e1];omega,e3⟩,?_⟩
        rw [e2,List.length_take];omega
end Go.Proofs.YtblomnkamngnbaaGreatDoor
namespace Go.Proofs.YtblomnkamngnbaaGreatDoor
inductive Tr where
  | mk (n : Nd) (ks : List Tr)
def Tr.hd : Tr → Nd
  | .mk n _=>n
def Tr.ks : Tr → List Tr
  | .mk _ ks=>ks
mutual
def Tr.fl : Tr → List Nd
  | .mk n ks=>n :: flL ks
def flL : List Tr → List Nd
  | []=>[]
  | t :: r=>t.fl ++ flL r
end
mutual
def Tr.wf : Tr → Prop
  | .mk n ks=>n.kids = ks.length ∧ wfL ks
def wfL : List Tr → Prop
  | []=>True
  | t :: r=>t.wf ∧ wfL r
end
mutual
def Tr.sz : Tr → Nat
  | .mk _ ks=>szL ks + 1
def szL : List Tr → Nat
  | []=>0
  | t :: r=>t.sz + szL r
end
mutual
theorem Tr.fl_len : ∀ t : Tr,t.fl.length = t.sz
  | .mk _ ks=>by rw [Tr.fl,Tr.sz,List.length_cons,zKH ks]
theorem zKH : ∀ ks : List Tr,(flL ks).length = szL ks
  | []=>rfl
  | t :: r=>by rw [flL,szL,List.length_append,Tr.fl_len t,zKH r]
end
theorem Tr.ind {P : Tr → Prop} (h : ∀ n ks,(∀ k ∈ ks,P k) → P (.mk n ks)) : ∀ t,P t
  | .mk n ks=>h n ks (go ks)
where go : ∀ ks : List Tr,∀ k ∈ ks,P k
  | [],_,hk=>by cases hk
  | t :: r,k,hk=>by
    rcases List.mem_cons.1 hk with e | e
    · rw [e];exact Tr.ind h t
    · exact go r k e
theorem zCW : ∀ {ks : List Tr},wfL ks ↔ ∀ k ∈ ks,k.wf
  | []=>by simp [wfL]
  | t :: r=>by simp [wfL,zCW (ks:=r)]
theorem zFn : ∀ (ks : List Tr),flL ks = (ks.map Tr.fl).flatten
  | []=>rfl
  | t :: r=>by rw [flL,List.map_cons,List.flatten_cons,zFn r]
theorem zBS (t : Tr) : 0 < t.sz:=by cases t;rw [Tr.sz];omega
theorem zCo : ∀ {ks : List Tr} {k : Tr},k ∈ ks → k.sz ≤ szL ks
  | t :: r,k,h=>by
    rw [szL]
    rcases List.mem_cons.1 h with e | e
    · rw [e];omega
    · have:=zCo e;omega
mutual
theorem Tr.wf_cns : ∀ {t : Tr},t.wf → cns t.fl 1 = some t.fl.length
  | .mk n ks,h=>by
    rw [Tr.wf] at h
    rw [Tr.fl,zCl,if_neg (by omega),show 0 + n.kids.toNat = ks.length by omega,zOr h.2];rfl
theorem zOr : ∀ {ks : List Tr},wfL ks → cns (flL ks) ks.length = some (flL ks).length
  | [],_=>rfl
  | t :: r,h=>by
    rw [wfL] at h
    rw [flL,List.length_cons,show r.length + 1 = 1 + r.length by omega,zHB,zC3 _ (Tr.wf_cns h.1),Option.bind_some,List.drop_left,zOr h.2,Option.map_some,List.length_append]
    congr 1;omega
end
theorem zOw : ∀ (m : Nat) {L : List Nd},L.length ≤ m → cns L 1 = some L.length → ∃ t : Tr,t.fl = L ∧ t.wf
  | 0,L,hm,h=>by have:=zHr h;omega
  | m + 1,L,hm,h=>by
    obtain ⟨x,KK,R,hN,hl⟩:=zMA (L:=L) (n:=0) (by simpa using h)
    have hd:=hN.drop
    rw [List.drop_zero] at hd
    have hR : R = []:=by
      have:=congrArg List.length hd
      simp only [List.length_cons,List.length_append] at this
      exact List.eq_nil_of_length_eq_zero (by omega)
    subst hR
    rw [List.append_nil] at hd
    have hlen : KK.flatten.length ≤ m:=by rw [hd,List.length_cons] at hm;omega
    have key : ∀ (KK : List (List Nd)),KK.flatten.length ≤ m → (∀ K ∈ KK,cns K 1 = some K.length) → ∃ ks : List Tr,flL ks = KK.flatten ∧ wfL ks ∧ ks.length = KK.length:=by
      intro KK
      induction KK with
      | nil=>exact fun _ _=>⟨[],rfl,trivial,rfl⟩
      | cons K KK ih =>
        intro hl hw
        rw [List.flatten_cons,List.length_append] at hl
        obtain ⟨t,e1,w1⟩:=zOw m (L:=K) (by omega) (hw K List.mem_cons_self)
        obtain ⟨ks,e2,w2,l2⟩:=ih (by omega) fun K' h'=>hw K' (List.mem_cons_of_mem _ h')
        exact ⟨t :: ks,by rw [flL,e1,e2,List.flatten_cons],⟨w1,w2⟩,by rw [List.length_cons,List.length_cons,l2]⟩
    obtain ⟨ks,e,w,l⟩:=key KK hlen hN.whole
    exact ⟨.mk x ks,by rw [Tr.fl,e,hd],by rw [Tr.wf];exact ⟨by rw [hN.kids,l],w⟩⟩
theorem zFY {L : List Nd} : zCA L = true ↔ ∃ t : Tr,t.fl = L ∧ t.wf:=by
  rw [zDb]
  constructor
  · exact zOw L.length (Nat.le_refl _)
  · rintro ⟨t,rfl,h⟩;exact Tr.wf_cns h
structure At (L : List Nd) (n : Nat) (t : Tr) : Prop where
  pre : ∃ R,L.drop n = t.fl ++ R
  wf : t.wf
theorem At.top {t : Tr} (h : t.wf) : At t.fl 0 t:=⟨⟨[],by simp⟩,h⟩
theorem At.node {L : List Nd} {n : Nat} {x : Nd} {ks : List Tr} (h : At L n (.mk x ks)) : ∃ R,Node L n x (ks.map Tr.fl) R:=by
  obtain ⟨R,hd⟩:=h.pre
  have hw:=h.wf
  rw [Tr.wf] at hw
  refine ⟨R,by rw [hd,Tr.fl,zFn];rfl,by rw [List.length_map];exact hw.1,fun K hK=>?_⟩
  obtain ⟨k,hk,rfl⟩:=List.mem_map.1 hK
  exact Tr.wf_cns (zCW.1 hw.2 k hk)
theorem At.here {L : List Nd} {n : Nat} {x : Nd} {ks : List Tr} (h : At L n (.mk x ks)) : L[n]? = some x:=by
  obtain ⟨R,hN⟩:=h.node;exact hN.at
theorem At.hd {L : List Nd} {n : Nat} {t : Tr} (h : At L n t) : L[n]? = some t.hd:=by cases t;exact h.here
theorem At.len {L : List Nd} {n : Nat} {t : Tr} (h : At L n t) : n + t.sz ≤ L.length:=by
  obtain ⟨R,hd⟩:=h.pre
  have:=congrArg List.length hd
  rw [List.length_drop,List.length_append,Tr.fl_len] at this
  have:=zBS t;omega
def kidAt (n : Nat) (ks : List Tr) (i : Nat) : Nat:=n + 1 + szL (ks.take i)
theorem zGt : ∀ (a b : List Tr),szL (a ++ b) = szL a + szL b
  | [],b=>by rw [List.nil_append,szL];omega
  | t :: a,b=>by rw [List.cons_append,szL,szL,zGt a b];omega
theorem zC0 {n : Nat} {ks : List Tr} {i : Nat} {k : Tr} (h : ks[i]? = some k) : kidAt n ks (i + 1) = kidAt n ks i + k.sz:=by
  unfold kidAt
  rw [List.take_add_one,h,zGt,Option.toList_some,szL,szL];omega
theorem zCH (n : Nat) (ks : List Tr) : kidAt n ks 0 = n + 1:=by simp [kidAt,szL]
theorem zIM (n : Nat) (ks : List Tr) : kidAt n ks ks.length = n + 1 + szL ks:=by rw [kidAt,List.take_length]
theorem zP3 : ∀ (ks : List Tr),(ks.map Tr.fl).flatten.length = szL ks
  | ks=>by rw [← zFn,zKH]
theorem At.kid {L : List Nd} {n : Nat} {x : Nd} {ks : List Tr} (h : At L n (.mk x ks)) {i : Nat} {k : Tr} (hk : ks[i]? = some k) : At L (kidAt n ks i) k:=by
  obtain ⟨R,hN⟩:=h.node
  have hw:=h.wf
  rw [Tr.wf] at hw
  have h1:=(zTI hN.next hN.whole (i:=i) (K:=k.fl) (by rw [List.getElem?_map,hk];rfl)).2
  rw [← List.map_take,zP3] at h1
  exact ⟨⟨_,h1⟩,zCW.1 hw.2 k (List.mem_of_getElem? hk)⟩
theorem At.endF {L : List Nd} {n : Nat} {t : Tr} (h : At L n t) : endF L (n : Int) = ((n + t.sz : Nat) : Int):=by
  obtain ⟨R,hd⟩:=h.pre
  rw [zKJ (k:=t.fl.length) (by rw [hd];exact zC3 _ (Tr.wf_cns h.wf)),Tr.fl_len];omega
theorem At.kids {L : List Nd} {n : Nat} {x : Nd} {ks : List Tr} (h : At L n (.mk x ks)) : zBX L (n : Int) = (List.range ks.length).map fun i=>((kidAt n ks i : Nat) : Int):=by
  obtain ⟨R,hN⟩:=h.node
  rw [hN.kidsEq,zH4,List.length_map]
  refine List.map_congr_left fun i _=>?_
  rw [← List.map_take,zP3,kidAt];omega
theorem At.kids_get {L : List Nd} {n : Nat} {x : Nd} {ks : List Tr} (h : At L n (.mk x ks)) {i : Nat} (hi : i < ks.length) : (zBX L (n : Int))[i]? = some ((kidAt n ks i : Nat) : Int):=by
  rw [h.kids,List.getElem?_map,List.getElem?_range hi];rfl
theorem At.kids_len {L : List Nd} {n : Nat} {x : Nd} {ks : List Tr} (h : At L n (.mk x ks)) : (zBX L (n : Int)).length = ks.length:=by
  rw [h.kids,List.length_map,List.length_range]
theorem At.kidn {L : List Nd} {n : Nat} {x : Nd} {ks : List Tr} (h : At L n (.mk x ks)) : x.kids = ks.length:=by
  have:=h.wf;rw [Tr.wf] at this;exact this.1
theorem At.sub {L : List Nd} {n : Nat} {t : Tr} (h : At L n t) : subF L (n : Int) = t.fl:=by
  obtain ⟨R,hd⟩:=h.pre
  rw [subF,h.endF,if_neg (by omega),Int.toNat_natCast,Int.toNat_natCast,List.drop_take,hd,show n + t.sz - n = t.fl.length by rw [Tr.fl_len];omega,List.take_left]
end Go.Proofs.YtblomnkamngnbaaGreatDoor
namespace Go.Proofs.YtblomnkamngnbaaGreatDoor
open Go.Sx Go.RowKit
theorem ff_0 : zBN Tryz.prog 139 0 = some 0:=by kernel_rfl
theorem ff_1 : zBN Tryz.prog 139 1 = some 1:=by kernel_rfl
theorem ff_2 : zBN Tryz.prog 139 2 = some 2:=by kernel_rfl
theorem ff_3 : zBN Tryz.prog 139 3 = some 3:=by kernel_rfl
theorem ff_4 : zBN Tryz.prog 139 4 = some 4:=by kernel_rfl
theorem fd_0 : zBN Tryz.prog 120 0 = some 0:=by kernel_rfl
theorem fd_1 : zBN Tryz.prog 120 1 = some 1:=by kernel_rfl
theorem fd_2 : zBN Tryz.prog 120 2 = some 2:=by kernel_rfl
theorem zEq : zBL Tryz.prog 139 = some (true,5):=by kernel_rfl
theorem zSQ : zBL Tryz.prog 34 = some (false,1):=by kernel_rfl
theorem zMp : zBL Tryz.prog 115 = some (false,1):=by kernel_rfl
theorem zI0 : zBL Tryz.prog 118 = some (false,1):=by kernel_rfl
theorem zDR : zBo Tryz.prog 139 = some [.bool false,.bool false,.nilFunc,.nilFunc,.bool false]:=by kernel_rfl
theorem zG1 : zCy Tryz.prog 139 = some [(0,1),(1,1),(2,1),(3,1),(4,1)]:=by kernel_rfl
theorem zOl : zBo Tryz.prog 120 = some [.slice none 0 0,.map none,.slice none 0 0]:=by kernel_rfl
theorem zPN : zCy Tryz.prog 120 = some [(0,1),(1,1),(2,1)]:=by kernel_rfl
theorem fy_s : fnTy Tryz.prog 34 = true:=by kernel_rfl
theorem zIH : zDf Tryz.prog 118 = some (9,3):=by kernel_rfl
theorem zGs : zFy Tryz.prog 3 = some (.val (.int .i64 0)):=by kernel_rfl
theorem zJt : zCy Tryz.prog 68 = some [(0,1),(1,1),(2,1),(3,1)]:=by kernel_rfl
theorem zJ7 : zAT Tryz.prog 29 = true:=by kernel_rfl
theorem zJ8 : zAT Tryz.prog 30 = true:=by kernel_rfl
theorem zKA : zAT Tryz.prog 143 = true:=by kernel_rfl
theorem zRn : zAT Tryz.prog 166 = true:=by kernel_rfl
theorem zFO : zAT Tryz.prog 126 = true:=by kernel_rfl
theorem zOM : zAT Tryz.prog 144 = true:=by kernel_rfl
theorem zOL : zAT Tryz.prog 145 = true:=by kernel_rfl
theorem zDU : zAT Tryz.prog 104 = true:=by kernel_rfl
theorem zRi : zAT Tryz.prog 97 = true:=by kernel_rfl
theorem zHi : zAT Tryz.prog 95 = true:=by kernel_rfl
theorem zLC : zAT Tryz.prog 56 = true:=by kernel_rfl
theorem zJH : zAT Tryz.prog 96 = true:=by kernel_rfl
theorem zJG : zAT Tryz.prog 98 = true:=by kernel_rfl
theorem zIS : zAT Tryz.prog 100 = true:=by kernel_rfl
theorem zPm : zAT Tryz.prog 103 = true:=by kernel_rfl
theorem zCs : zAT Tryz.prog 34 = true:=by kernel_rfl
theorem zTR : zAT Tryz.prog 60 = true:=by kernel_rfl
theorem zIW : zAT Tryz.prog 106 = true:=by kernel_rfl
theorem zIQ : zAT Tryz.prog 129 = true:=by kernel_rfl
def zDe (s : List UInt8) : Bool:=zDd ⟨1,s,0,0⟩ || zDd ⟨5,s,0,0⟩
def conF (s : List UInt8) : Bool:=zDd ⟨2,s,0,0⟩
def patK (k : Int) : Bool:=decide (21 ≤ k ∧ k ≤ 24)
def okK (k : Int) : Bool:=decide ((1 ≤ k ∧ k ≤ 12) ∨ (21 ≤ k ∧ k ≤ 24))
def numK (k : Int) : Bool:=decide (k = 1 ∨ k = 23)
def namK (k : Int) : Bool:=decide (k = 3 ∨ k = 5 ∨ k = 7 ∨ k = 8 ∨ k = 12 ∨ k = 22)
def cntK (k n : Int) : Bool :=
  if k = 5 ∨ k = 11 then decide (n = 1) else if k = 6 ∨ k = 7 ∨ k = 8 ∨ k = 12 then decide (n = 2) else if k = 9 then decide (n = 3)
  else if k = 10 then decide (3 ≤ n ∧ n % 2 = 1) else if k = 24 then true else decide (n = 0)
def zEG (x : Nd) (k1 : Int) (pat : Bool) : Int :=
  if okK x.kind = false ∨ patK x.kind ≠ pat ∨ cntK x.kind x.kids = false then 61
  else if (numK x.kind = true ∧ W x.num ≠ x.num) ∨ (numK x.kind = false ∧ x.num ≠ 0) then 61
  else if (x.kind = 2 ∧ 200 < x.text.length) ∨ (x.kind ≠ 2 ∧ namK x.kind = false ∧ x.kind ≠ 4 ∧ x.kind ≠ 24 ∧ x.text ≠ []) then 61
  else if x.kind = 8 ∧ k1 ≠ 5 then 61
  else if (namK x.kind = true ∧ zDe x.text = false) ∨ ((x.kind = 4 ∨ x.kind = 24) ∧ conF x.text = false) then 62
  else 0
def Tr.kind1 : Tr → Int
  | .mk _ (k :: _)=>k.hd.kind
  | .mk _ []=>0
mutual
def Tr.werr : Tr → Bool → Int
  | .mk x ks,pat=>if zEG x (Tr.kind1 (.mk x ks)) pat ≠ 0 then zEG x (Tr.kind1 (.mk x ks)) pat else zDc (decide (x.kind = 10)) pat ks 0
def zDc (m pat : Bool) : List Tr → Nat → Int
  | [],_=>0
  | t :: r,i=>if t.werr (pat || (m && decide (i % 2 = 1))) ≠ 0 then t.werr (pat || (m && decide (i % 2 = 1))) else zDc m pat r (i + 1)
end
def zBJ (L : List Nd) : List (List UInt8):=L.filterMap fun n=>if n.kind = 22 then some n.text else none
mutual
def Tr.tw : Tr → Bool
  | .mk x ks=>if patK x.kind then !decide (zBJ (x :: flL ks)).Nodup else twL ks
def twL : List Tr → Bool
  | []=>false
  | t :: r=>t.tw || twL r
end
end Go.Proofs.YtblomnkamngnbaaGreatDoor
namespace Go.Proofs
open Go.Shelf Go.RowKit Go.Lib Go.Sort
theorem Tryz.sortNone (p : Option Addr) (cap : Nat) (w : World) :
    Calls Tryz.prog 101 #[.slice p 0 cap] w fun e w'=>e = .returned (.tuple #[]) ∧ w' = w:=Any.slices_Sort_string_none Tryz.lays190 p cap w
theorem Tryz.compactNone (a : Option Addr) (cap : Nat) (w : World) : Calls Tryz.prog 102 #[.slice a 0 cap] w fun e w'=>e = .returned (.slice a 0 cap) ∧ w' = w:=Any.slices_Compact_string_empty Tryz.lays194 a cap w
end Go.Proofs
namespace Go.Proofs.YtblomnkamngnbaaGreatDoor
open Go.Sx Go.Shelf Go.RowKit Go.Lib Go.Sort
def srtT (L : List (List UInt8)) : List (List UInt8):=L.mergeSort fun x y=>decide (x ≤ y)
theorem zGG (L : List (List UInt8)) : (srtT L).Perm L:=List.mergeSort_perm _ _
theorem zL1 (L : List (List UInt8)) : (srtT L).Pairwise fun x y=>x ≤ y:=by
  have:=List.pairwise_mergeSort (le:=fun x y : List UInt8=>decide (x ≤ y)) (fun a b c h1 h2=>by simp at *;exact List.le_trans h1 h2) (fun a b=>by simp;exact List.le_total a b) L
  exact this.imp fun h=>by simpa using h
theorem zIe (zs : List (List UInt8)) : (Lib.compact zs).length = ((List.range zs.length).filter (keeps zs.toArray)).length:=by
  rw [Lib.compact,compactUpTo,List.length_map]
theorem zJW (zs : List (List UInt8)) : (Lib.compact zs).length ≤ zs.length:=by
  rw [zIe]
  have:=List.length_filter_le (keeps zs.toArray) (List.range zs.length)
  rwa [List.length_range] at this
theorem zMP {zs : List (List UInt8)} (hs : zs.Pairwise fun x y=>x ≤ y) : (Lib.compact zs).length < zs.length ↔ ¬ zs.Nodup:=by
  have hk : (Lib.compact zs).length = zs.length ↔ ∀ j,j < zs.length → keeps zs.toArray j = true:=by
    rw [zIe]
    conv=>lhs;rhs;rw [← List.length_range (n:=zs.length)]
    rw [List.length_filter_eq_length_iff]
    simp only [List.mem_range]
  have hle:=zJW zs
  have hget : ∀ j (hj : j < zs.length),zs.toArray[j]! = zs[j]:=fun j hj=>by rw [getElem!_pos _ _ (by simpa using hj)];simp
  have hn : zs.Nodup ↔ ∀ j,j < zs.length → keeps zs.toArray j = true:=by
    rw [List.Nodup,List.pairwise_iff_getElem]
    rw [List.pairwise_iff_getElem] at hs
    constructor
    · intro h j hj
      by_cases h0 : j = 0
      · subst h0;exact keeps_lt_one _ 0 (by omega)
      · refine keeps_pos ?_
        rw [hget j hj,hget (j - 1) (by omega)]
        exact fun e=>h (j - 1) j (by omega) hj (by omega) e.symm
    · intro h i j hi hj hij e
      have h1:=h j hj
      simp only [keeps,decide_eq_true_eq] at h1
      rcases h1 with h1 | h1
      · omega
      · rw [hget j hj,hget (j - 1) (by omega)] at h1
        apply h1
        rcases Nat.lt_or_ge i (j - 1) with h2 | h2
        · have a1:=hs i (j - 1) hi (by omega) h2
          have a2:=hs (j - 1) j (by omega) hj (by omega)
          rw [e] at a1
          exact List.le_antisymm a1 a2 |>.symm ▸ rfl
        · have : i = j - 1:=by omega
          subst this;exact e.symm
  rw [hn, ← hk];omega
theorem putW_row {w : World} {b n : Nat} {d : Array (List UInt8)} {os : Array Obj} {us : Array Value} {e : TypeId} (hb : w.heap[b]? = some (.cells us e (0,0))) :
    (grow (putRow encStr (Sort.ahead w n) b 0 d) os).heap[b]? = some (.cells (putCells encStr 0 d us) e (0,0)):=by
  have hlt : b < w.heap.size:=(Array.getElem?_eq_some_iff.1 hb).1
  simp only [grow,putRow,mapBlock,Sort.ahead]
  rw [Array.getElem?_append_left (by simpa using hlt),Array.getElem?_modify,if_pos rfl,hb]
  rfl
theorem zN6 {w : World} {b n k : Nat} {d : Array (List UInt8)} {os : Array Obj} (hk : k < w.heap.size) (hne : k ≠ b) :
    (grow (putRow encStr (Sort.ahead w n) b 0 d) os).heap[k]? = w.heap[k]?:=by
  simp only [grow,putRow,mapBlock,Sort.ahead]
  rw [Array.getElem?_append_left (by simpa using hk),Array.getElem?_modify,if_neg (fun h=>hne h.symm)]
theorem zKv {w : World} {b n : Nat} {d : Array (List UInt8)} {os : Array Obj} : w.heap.size ≤ (grow (putRow encStr (Sort.ahead w n) b 0 d) os).heap.size:=by
  simp only [grow,putRow,mapBlock,Sort.ahead,Array.size_append,Array.size_modify]
  omega
theorem zLS (L : List (List UInt8)) : zB4 (L.map str) = L.map str:=by
  induction L with
  | nil=>rfl
  | cons x L ih=>show str x :: zB4 (L.map str) = _;rw [ih];rfl
theorem putS {g : Gh} {w : World} {id b e n : Nat} {L L' : List (List UInt8)} {os : Array Obj} (hl : L'.length = L.length) (hi : ObOk g w id (.buf true e 1 (L.map str))) (hb : g.blk id = some b) (_hstb : ∀ b o,g.St b o → b < w.heap.size) :
    (∀ k,k < w.heap.size → g.blk id ≠ some k → (grow (putRow encStr (Sort.ahead w n) b 0 L'.toArray) os).heap[k]? = w.heap[k]?) ∧ ObOk g (grow (putRow encStr (Sort.ahead w n) b 0 L'.toArray) os) id (.buf true e 1 (L'.map str)):=by
  obtain ⟨o1,o2,o3,o4,o5⟩:=hi
  have hoth : ∀ k,k < w.heap.size → k ≠ b → (grow (putRow encStr (Sort.ahead w n) b 0 L'.toArray) os).heap[k]? = w.heap[k]?:=fun k hk hne=>zN6 hk hne
  refine ⟨fun k hk hne=>hoth k hk fun e=>hne (by rw [hb,e]),?_⟩
  rcases o5 with ⟨o5,_⟩ | ⟨b',us,hb',hw,hus,h1,h2,h3⟩
  · rw [hb] at o5;cases o5
  · rw [hb] at hb';injection hb' with hb';subst hb'
    rw [List.length_map] at o4 h1 h3
    have hin : ∀ t,t < L'.length → (putCells encStr 0 L'.toArray us)[t]? = some (encStr (L'.toArray[t]!)):=fun t ht=>by
      simp only [putCells,Array.getElem?_mapIdx,Array.getElem?_eq_getElem (show t < us.size by omega),Option.map_some]
      rw [if_pos ⟨Nat.zero_le _,by simpa using ht⟩];simp
    refine ⟨o1,fun x hx=>by obtain ⟨v,_,rfl⟩:=List.mem_map.1 hx;rfl,o3,by rw [List.length_map,hl];exact o4,.inr ⟨b,_,hb,putW_row hw,by simp [putCells,hus],fun j u hj hu=>?_,fun j u dd hu hdd=>?_,fun o=>?_⟩⟩
    · rw [List.length_map] at hj
      rw [hin j (by omega)] at hu;injection hu with hu;subst hu;rfl
    · rw [zLS,List.getElem?_map] at hdd
      cases hq : L'[j]? with
      | none=>rw [hq] at hdd;cases hdd
      | some s =>
        rw [hq] at hdd;injection hdd with hdd;subst hdd
        have hj:=(List.getElem?_eq_some_iff.1 hq).1
        rw [hin j hj] at hu;injection hu with hu;subst hu
        have : L'.toArray[j]! = s:=by rw [getElem!_pos _ _ (by simpa using hj)];simpa using (List.getElem?_eq_some_iff.1 hq).2
        rw [this];exact .val _
    · rw [List.length_map,hl];exact h3 o
theorem rowS {g : Gh} {w : World} {id b e : Nat} {L : List (List UInt8)} (hi : ObOk g w id (.buf true e 1 (L.map str))) (hb : g.blk id = some b) : Holds encStr w b 0 L.toArray ∧ b < w.heap.size ∧ L.length ≤ g.cap id:=by
  obtain ⟨o1,o2,o3,o4,o5⟩:=hi
  rcases o5 with ⟨o5,_⟩ | ⟨b',us,hb',hw,hus,h1,h2,h3⟩
  · rw [hb] at o5;cases o5
  · rw [hb] at hb';injection hb' with hb';subst hb'
    rw [List.length_map] at o4 h1
    refine ⟨fun j hj=>?_,(Array.getElem?_eq_some_iff.1 hw).1,o4⟩
    have hj' : j < L.length:=by simpa using hj
    have hu : us[j]? = some (us[j]'(by omega)):=Array.getElem?_eq_getElem _
    have hL : L[j]? = some L[j]:=List.getElem?_eq_getElem hj'
    have r:=h2 j _ (str L[j]) hu (by rw [zLS,List.getElem?_map,hL];rfl)
    have hv:=RepD.val_eq r
    constructor
    · simp only [World.cell?,hw,Option.isSome_none,Bool.false_eq_true,if_false,Nat.zero_add]
      rw [getElem!_pos _ _ (by simpa using hj')]
      rw [hu,hv];simp
    · simp [World.frozen?,hw]
theorem zL2 (g : Gh) (w : World) (id e : Nat) (L : List (List UInt8)) (hbd : L.length ≤ 2000000) (hi : ObOk g w id (.buf true e 1 (L.map str))) (hstb : ∀ b o,g.St b o → b < w.heap.size) :
    Calls Tryz.prog 101 #[.slice ((g.blk id).map (⟨·,0,none⟩)) L.length (g.cap id)] w fun e' w' =>
      e' = .returned (.tuple #[]) ∧ w'.os = w.os ∧ w'.tape = w.tape ∧ w'.output = w.output ∧ w.heap.size ≤ w'.heap.size ∧ (∀ k,k < w.heap.size → g.blk id ≠ some k → w'.heap[k]? = w.heap[k]?) ∧ ObOk g w' id (.buf true e 1 ((srtT L).map str)):=by
  cases hb : g.blk id with
  | none =>
    have hL : L = []:=by
      obtain ⟨o1,o2,o3,o4,o5⟩:=hi
      rcases o5 with ⟨_,o5⟩ | ⟨b',us,hb',_⟩
      · rw [List.length_map] at o4;exact List.eq_nil_of_length_eq_zero (by omega)
      · rw [hb] at hb';cases hb'
    subst hL
    refine (Tryz.sortNone none (g.cap id) w).mono ?_
    rintro e' w' ⟨rfl,rfl⟩
    exact ⟨rfl,rfl,rfl,rfl,Nat.le_refl _,fun _ _ _=>rfl,by rw [show srtT [] = [] by simp [srtT]];exact hi⟩
  | some b =>
    obtain ⟨hH,hlt,_⟩:=rowS hi hb
    refine (Tryz.slices_Sort_string b 0 (g.cap id) L w hH hlt (by omega)).mono ?_
    rintro e' w' ⟨rfl,n,os,rfl⟩
    obtain ⟨h1,h2⟩:=putS (L':=srtT L) (n:=n) (os:=os) ((zGG L).length_eq) hi hb hstb
    rw [hb] at h1
    exact ⟨rfl,rfl,rfl,rfl,zKv,h1,h2⟩
theorem zIs (g : Gh) (w : World) (id e b : Nat) (L : List (List UInt8)) (hbd : L.length ≤ 2000000) (hi : ObOk g w id (.buf true e 1 (L.map str))) (hb : g.blk id = some b) (hstb : ∀ b o,g.St b o → b < w.heap.size) :
    Calls Tryz.prog 102 #[.slice ((g.blk id).map (⟨·,0,none⟩)) L.length (g.cap id)] w fun e' w' =>
      e' = .returned (.slice ((g.blk id).map (⟨·,0,none⟩)) (Lib.compact L).length (g.cap id)) ∧ w'.os = w.os ∧ w'.tape = w.tape ∧ w'.output = w.output ∧ w.heap.size ≤ w'.heap.size ∧ (∀ k,k < w.heap.size → g.blk id ≠ some k → w'.heap[k]? = w.heap[k]?) ∧ ObOk g w' id (.buf true e 1 ((Lib.compact L ++ List.replicate (L.length - (Lib.compact L).length) []).map str)):=by
  obtain ⟨hH,hlt,hc⟩:=rowS hi hb
  have hle:=zJW L
  rw [hb]
  refine (Tryz.slices_Compact_string b 0 (g.cap id) L w hH (by omega) hc).mono ?_
  rintro e' w' ⟨rfl,n,rfl⟩
  have hg : ∀ w : World,grow w #[] = w:=fun w=>by simp [grow]
  obtain ⟨h1,h2⟩:=putS (L':=Lib.compact L ++ List.replicate (L.length - (Lib.compact L).length) []) (n:=n) (os:=#[]) (by simp;omega) hi hb hstb
  rw [hg] at h1 h2
  rw [hb] at h1
  have hs:=zKv (w:=w) (b:=b) (n:=n) (d:=(Lib.compact L ++ List.replicate (L.length - (Lib.compact L).length) []).toArray) (os:=#[])
  rw [hg] at hs
  exact ⟨rfl,rfl,rfl,rfl,hs,h1,h2⟩
end Go.Proofs.YtblomnkamngnbaaGreatDoor
namespace Go.Proofs.YtblomnkamngnbaaGreatDoor
open Go.Sx
abbrev Bag:=List (List UInt8 × Nat)
def lkB : Bag → List UInt8 → Nat
  | [],_=>0
  | (k,v) :: r,a=>if k = a then v else lkB r a
def putB : Bag → List UInt8 → Nat → Bag
  | [],a,v=>[(a,v)]
  | (k,u) :: r,a,v=>if k = a then (k,v) :: r else (k,u) :: putB r a v
def delB : Bag → List UInt8 → Bag
  | [],_=>[]
  | (k,u) :: r,a=>if k = a then r else (k,u) :: delB r a
def zC8 (S : Bag) : List (List UInt8):=S.map Prod.fst
def upB (S : Bag) (a : List UInt8) : Bag:=putB S a (lkB S a + 1)
def dnB (S : Bag) (a : List UInt8) : Bag:=if lkB S a - 1 = 0 then delB (putB S a (lkB S a - 1)) a else putB S a (lkB S a - 1)
def zDw (c : List UInt8 → Nat) (S : Bag) : Bag:=S.map fun p=>(p.1,p.2 + c p.1)
theorem zJy {a : List UInt8} : ∀ {S : Bag},a ∉ zC8 S → lkB S a = 0
  | [],_=>rfl
  | (k,v) :: r,h=>by
    have h1 : k ≠ a:=fun e=>h (by rw [e];exact List.mem_cons_self)
    rw [lkB,if_neg h1,zJy fun hm=>h (List.mem_cons_of_mem _ hm)]
theorem zKw {a : List UInt8} {v : Nat} : ∀ {S : Bag},a ∉ zC8 S → putB S a v = S ++ [(a,v)]
  | [],_=>rfl
  | (k,u) :: r,h=>by
    have h1 : k ≠ a:=fun e=>h (by rw [e];exact List.mem_cons_self)
    rw [putB,if_neg h1,zKw fun hm=>h (List.mem_cons_of_mem _ hm)];rfl
theorem zJF (c : List UInt8 → Nat) (S : Bag) : zC8 (zDw c S) = zC8 S:=by
  simp [zC8,zDw,Function.comp_def]
theorem zIi {c d : List UInt8 → Nat} {S : Bag} (h : ∀ a ∈ zC8 S,c a = d a) : zDw c S = zDw d S :=
  List.map_congr_left fun p hp=>by rw [h p.1 (List.mem_map_of_mem hp)]
theorem zHh {c : List UInt8 → Nat} {a : List UInt8} : ∀ {S : Bag},a ∈ zC8 S → lkB (zDw c S) a = lkB S a + c a
  | (k,v) :: r,h=>by
    show lkB ((k,v + c k) :: zDw c r) a = _
    rw [lkB,lkB]
    by_cases e : k = a
    · rw [if_pos e,if_pos e,e]
    · rw [if_neg e,if_neg e,zHh]
      rcases List.mem_cons.1 h with h | h
      · exact absurd h.symm e
      · exact h
theorem zIA {c d : List UInt8 → Nat} {a : List UInt8} {v : Nat} : ∀ {S : Bag},(zC8 S).Nodup → a ∈ zC8 S → v = lkB S a + d a → (∀ b,b ≠ a → c b = d b) → putB (zDw c S) a v = zDw d S
  | (k,u) :: r,hn,h,hv,hc=>by
    have hn':=List.nodup_cons.1 hn
    show putB ((k,u + c k) :: zDw c r) a v = (k,u + d k) :: zDw d r
    rw [lkB] at hv
    rw [putB]
    by_cases e : k = a
    · rw [if_pos e] at hv ⊢
      subst e
      rw [hv,zIi (d:=d) fun b hb=>hc b fun e=>hn'.1 (by rw [← e];exact hb)]
    · rw [if_neg e] at hv ⊢
      rw [hc k e,zIA hn'.2 ?_ hv hc]
      rcases List.mem_cons.1 h with h | h
      · exact absurd h.symm e
      · exact h
theorem zLc {c : List UInt8 → Nat} {a : List UInt8} : ∀ (M : Bag) {Z : Bag},a ∉ zC8 M → delB (zDw c (M ++ Z)) a = zDw c (M ++ delB Z a)
  | [],Z,_=>by
    rw [List.nil_append,List.nil_append]
    induction Z with
    | nil=>rfl
    | cons p r ih =>
      obtain ⟨k,u⟩:=p
      show delB ((k,u + c k) :: zDw c r) a = _
      rw [delB,delB]
      by_cases e : k = a
      · rw [if_pos e,if_pos e]
      · rw [if_neg e,if_neg e,ih];rfl
  | (k,u) :: M,Z,h=>by
    have h1 : k ≠ a:=fun e=>h (by rw [e];exact List.mem_cons_self)
    show delB ((k,u + c k) :: zDw c (M ++ Z)) a = (k,u + c k) :: zDw c (M ++ delB Z a)
    rw [delB,if_neg h1,zLc M fun hm=>h (List.mem_cons_of_mem _ hm)]
theorem zNa {a : List UInt8} : ∀ {Z : Bag} {p : List UInt8 × Nat},p ∈ delB Z a → p ∈ Z
  | (k,u) :: r,p,h=>by
    rw [delB] at h
    split at h
    · exact List.mem_cons_of_mem _ h
    · rcases List.mem_cons.1 h with h | h
      · rw [h];exact List.mem_cons_self
      · exact List.mem_cons_of_mem _ (zNa h)
theorem zLa {a b : List UInt8} (hb : b ≠ a) : ∀ {Z : Bag},b ∈ zC8 Z → b ∈ zC8 (delB Z a)
  | (k,u) :: r,h=>by
    rw [delB]
    split
    · rename_i e
      rcases List.mem_cons.1 h with h | h
      · exact absurd (h.trans e) hb
      · exact h
    · rcases List.mem_cons.1 h with h | h
      · exact h ▸ List.mem_cons_self
      · exact List.mem_cons_of_mem _ (zLa hb h)
theorem zHP {a : List UInt8} : ∀ {Z : Bag},(delB Z a).Sublist Z
  | []=>List.Sublist.refl _
  | (k,u) :: r=>by
    rw [delB]
    split
    · exact List.sublist_cons_self _ _
    · exact List.Sublist.cons_cons _ zHP
theorem zLb {a : List UInt8} : ∀ {Z : Bag},(zC8 Z).Nodup → a ∉ zC8 (delB Z a)
  | [],_=>by simp [delB,zC8]
  | (k,u) :: r,hn=>by
    have hn':=List.nodup_cons.1 hn
    rw [delB]
    split
    · rename_i e;rw [← e];exact hn'.1
    · rename_i e
      intro h
      rcases List.mem_cons.1 h with h | h
      · exact e h.symm
      · exact zLb hn'.2 h
structure GoodB (M : Bag) : Prop where
  nd : (zC8 M).Nodup
  pos : ∀ p ∈ M,0 < p.2
structure Pend (M : Bag) (c : List UInt8 → Nat) (S : Bag) : Prop where
  ex : ∃ Z : Bag,S = zDw c (M ++ Z) ∧ (zC8 (M ++ Z)).Nodup ∧ (∀ p ∈ Z,p.2 = 0 ∧ 0 < c p.1) ∧ ∀ a,0 < c a → a ∈ zC8 (M ++ Z)
theorem zME {S : Bag} {a : List UInt8} : a ∈ zC8 S → (a,lkB S a) ∈ S:=by
  induction S with
  | nil=>intro h;cases h
  | cons p r ih =>
    obtain ⟨k,v⟩:=p
    intro h
    rw [lkB]
    by_cases e : k = a
    · rw [if_pos e,e];exact List.mem_cons_self
    · rw [if_neg e]
      rcases List.mem_cons.1 h with h | h
      · exact absurd h.symm e
      · exact List.mem_cons_of_mem _ (ih h)
theorem Pend.zero {M : Bag} (h : GoodB M) : Pend M (fun _=>0) M :=
  ⟨[],by rw [List.append_nil];simp [zDw],by rw [List.append_nil];exact h.nd,fun p hp=>by (cases hp),fun a h=>by omega⟩
theorem Pend.done {M S : Bag} {c : List UInt8 → Nat} (hc : ∀ a,c a = 0) (h : Pend M c S) : S = M:=by
  obtain ⟨Z,rfl,_,h3,_⟩:=h.ex
  cases Z with
  | nil=>rw [List.append_nil];simp [zDw,hc]
  | cons p r=>have:=(h3 p List.mem_cons_self).2;rw [hc] at this;omega
theorem Pend.up {M S : Bag} {c d : List UInt8 → Nat} {a : List UInt8} (hd : d a = c a + 1) (hdb : ∀ b,b ≠ a → c b = d b) (h : Pend M c S) : Pend M d (upB S a):=by
  obtain ⟨Z,rfl,h2,h3,h4⟩:=h.ex
  by_cases hm : a ∈ zC8 (M ++ Z)
  · refine ⟨Z,?_,h2,fun p hp=>⟨(h3 p hp).1,?_⟩,fun b hb=>?_⟩
    · exact zIA h2 hm (by rw [zHh hm];omega) hdb
    · have:=(h3 p hp).2
      by_cases e : p.1 = a
      · rw [e,hd];omega
      · rw [← hdb _ e];exact this
    · by_cases e : b = a
      · rw [e];exact hm
      · exact h4 b (by rw [hdb b e];exact hb)
  · have hc0 : c a = 0:=Nat.eq_zero_of_not_pos fun hp=>hm (h4 a hp)
    refine ⟨Z ++ [(a,0)],?_,?_,fun p hp=>?_,fun b hb=>?_⟩
    · have hk : a ∉ zC8 (zDw c (M ++ Z)):=by rw [zJF];exact hm
      rw [upB,zJy hk,zKw hk,zIi (d:=d) fun b hb=>hdb b fun e=>hm (e ▸ hb), ← List.append_assoc]
      simp [zDw,hd,hc0]
    · rw [← List.append_assoc]
      unfold zC8 at h2 hm ⊢
      rw [List.map_append,List.nodup_append]
      exact ⟨h2,by simp,fun x hx y hy e=>hm (by simp at hy;subst hy;exact e ▸ hx)⟩
    · rcases List.mem_append.1 hp with hp | hp
      · have:=h3 p hp
        by_cases e : p.1 = a
        · exact ⟨this.1,by rw [e,hd];omega⟩
        · exact ⟨this.1,by rw [← hdb _ e];exact this.2⟩
      · simp at hp;subst hp
        exact ⟨rfl,by show 0 < d a;omega⟩
    · unfold zC8
      rw [← List.append_assoc,List.map_append]
      by_cases e : b = a
      · exact List.mem_append_right _ (by simp [e])
      · exact List.mem_append_left _ (h4 b (by rw [hdb b e];exact hb))
theorem Pend.dn {M S : Bag} {c d : List UInt8 → Nat} {a : List UInt8} (hM : GoodB M) (hd : c a = d a + 1) (hdb : ∀ b,b ≠ a → c b = d b) (h : Pend M c S) : Pend M d (dnB S a):=by
  obtain ⟨Z,rfl,h2,h3,h4⟩:=h.ex
  have hm : a ∈ zC8 (M ++ Z):=h4 a (by omega)
  have hl:=zHh (c:=c) hm
  have hput : putB (zDw c (M ++ Z)) a (lkB (zDw c (M ++ Z)) a - 1) = zDw d (M ++ Z):=zIA h2 hm (by rw [hl];omega) hdb
  have hmem:=zME hm
  unfold dnB
  rw [hput]
  by_cases h0 : lkB (zDw c (M ++ Z)) a - 1 = 0
  · rw [if_pos h0]
    have hz : lkB (M ++ Z) a = 0:=by omega
    have hd0 : d a = 0:=by omega
    rw [hz] at hmem
    have haM : a ∉ zC8 M:=fun hk=>by
      have h5:=zME hk
      have h6 : lkB (M ++ Z) a = lkB M a:=by
        have : ∀ (A B : Bag),a ∈ zC8 A → lkB (A ++ B) a = lkB A a:=by
          intro A B
          induction A with
          | nil=>intro h;cases h
          | cons p r ih =>
            obtain ⟨k,v⟩:=p
            intro h
            rw [List.cons_append,lkB,lkB]
            by_cases e : k = a
            · rw [if_pos e,if_pos e]
            · rw [if_neg e,if_neg e,ih]
              rcases List.mem_cons.1 h with h | h
              · exact absurd h.symm e
              · exact h
        exact this M Z hk
      have:=hM.pos _ h5
      simp only at this;omega
    have hn2:=h2
    unfold zC8 at hn2
    rw [List.map_append,List.nodup_append] at hn2
    refine ⟨delB Z a,zLc M haM,?_,fun p hp=>?_,fun b hb=>?_⟩
    · exact h2.sublist ((List.Sublist.append (List.Sublist.refl M) zHP).map _)
    · have h5:=h3 p (zNa hp)
      have h6 : p.1 ≠ a:=fun e=>zLb (a:=a) hn2.2.1 (by have h7:=List.mem_map_of_mem (f:=Prod.fst) hp;rw [e] at h7;exact h7)
      exact ⟨h5.1,by rw [← hdb _ h6];exact h5.2⟩
    · have hba : b ≠ a:=fun e=>by rw [e,hd0] at hb;omega
      have h5:=h4 b (by rw [hdb b hba];exact hb)
      unfold zC8 at h5 ⊢
      rw [List.map_append] at h5 ⊢
      rcases List.mem_append.1 h5 with h5 | h5
      · exact List.mem_append_left _ h5
      · exact List.mem_append_right _ (zLa hba h5)
  · rw [if_neg h0]
    refine ⟨Z,rfl,h2,fun p hp=>⟨(h3 p hp).1,?_⟩,fun b hb=>?_⟩
    · by_cases e : p.1 = a
      · have h5 : lkB (M ++ Z) a = 0:=by
          have hn2:=h2
          unfold zC8 at hn2
          rw [List.map_append,List.nodup_append] at hn2
          have haM : a ∉ zC8 M:=fun hk=>hn2.2.2 a hk a (e ▸ List.mem_map_of_mem hp) rfl
          rcases List.mem_append.1 hmem with h6 | h6
          · exact absurd (List.mem_map_of_mem (f:=Prod.fst) h6) haM
          · exact (h3 _ h6).1
        rw [e];omega
      · rw [← hdb _ e];exact (h3 p hp).2
    · by_cases e : b = a
      · rw [e];exact hm
      · exact h4 b (by rw [hdb b e];exact hb)
def upsB (S : Bag) (ns : List (List UInt8)) : Bag:=ns.foldl upB S
def dnsB (S : Bag) (ns : List (List UInt8)) : Bag:=ns.foldl dnB S
theorem Pend.ups {M : Bag} : ∀ {ns : List (List UInt8)} {S : Bag} {c : List UInt8 → Nat},Pend M c S → Pend M (fun a=>c a + ns.count a) (upsB S ns)
  | [],S,c,h=>by simpa [upsB] using h
  | n :: ns,S,c,h=>by
    have h1:=(h.up (a:=n) (d:=fun b=>if b = n then c b + 1 else c b) (by simp) (fun b hb=>by simp [hb])).ups (ns:=ns)
    have e : (fun a=>(if a = n then c a + 1 else c a) + ns.count a) = fun a=>c a + (n :: ns).count a:=by
      funext a
      rw [List.count_cons]
      by_cases ha : a = n
      · subst ha;simp;omega
      · have : ¬ n = a:=fun e=>ha e.symm
        simp [ha,this]
    rw [e] at h1
    exact h1
theorem Pend.dns {M : Bag} (hM : GoodB M) : ∀ {ns : List (List UInt8)} {S : Bag},Pend M (fun a=>ns.count a) S → dnsB S ns = M
  | [],S,h=>h.done fun a=>by simp
  | n :: ns,S,h=>by
    have h1 : Pend M (fun a=>ns.count a) (dnB S n):=h.dn hM (by simp) fun b hb=>by
      have : ¬ n = b:=fun e=>hb e.symm
      simp [this]
    exact Pend.dns hM (ns:=ns) h1
theorem zUv {M : Bag} (hM : GoodB M) (ns : List (List UInt8)) : dnsB (upsB M ns) ns = M:=by
  refine Pend.dns hM ?_
  have:=(Pend.zero hM).ups (ns:=ns)
  simpa using this
theorem GoodB.up {M : Bag} (h : GoodB M) (a : List UInt8) : GoodB (upB M a):=by
  obtain ⟨Z,e,h2,h3,_⟩:=((Pend.zero h).up (a:=a) (d:=fun b=>if b = a then 1 else 0) (by simp) (fun b hb=>by simp [hb])).ex
  rw [e]
  refine ⟨by rw [zJF];exact h2,fun p hp=>?_⟩
  obtain ⟨q,hq,rfl⟩:=List.mem_map.1 hp
  rcases List.mem_append.1 hq with hq | hq
  · have:=h.pos q hq;simp only;omega
  · have:=(h3 q hq).2;simp only;omega
theorem GoodB.ups {M : Bag} (h : GoodB M) : ∀ (ns : List (List UInt8)),GoodB (upsB M ns):=fun ns=>by
  induction ns generalizing M with
  | nil=>exact h
  | cons n ns ih=>exact ih (h.up n)
theorem GoodB.nil : GoodB []:=⟨List.nodup_nil,fun p hp=>by (cases hp)⟩
theorem zOv {S : Bag} {ns : List (List UInt8)} {i : Nat} {v : List UInt8} (h : ns[i]? = some v) : upsB S (ns.take (i + 1)) = upB (upsB S (ns.take i)) v:=by
  unfold upsB
  rw [List.take_add_one,h,List.foldl_append];rfl
theorem zQE {S : Bag} {ns : List (List UInt8)} {i : Nat} {v : List UInt8} (h : ns[i]? = some v) : dnsB S (ns.take (i + 1)) = dnB (dnsB S (ns.take i)) v:=by
  unfold dnsB
  rw [List.take_add_one,h,List.foldl_append];rfl
theorem zMD {a b : List UInt8} {v : Nat} : ∀ {S : Bag},lkB (putB S a v) b = if b = a then v else lkB S b
  | []=>by
    rw [putB,lkB,lkB]
    by_cases e : b = a
    · rw [if_pos e,if_pos e.symm]
    · rw [if_neg e,if_neg fun h=>e h.symm,lkB]
  | (k,u) :: r=>by
    rw [putB]
    by_cases e : k = a
    · rw [if_pos e,lkB,lkB]
      by_cases e2 : k = b
      · rw [if_pos e2,if_pos (e2 ▸ e)]
      · rw [if_neg e2,if_neg (fun h=>e2 (e.trans h.symm)),if_neg e2]
    · rw [if_neg e,lkB,lkB]
      by_cases e2 : k = b
      · rw [if_pos e2,if_neg (fun h=>e (e2.trans h)),if_pos e2]
      · rw [if_neg e2,if_neg e2,zMD]
theorem zF1 {b : List UInt8} : ∀ {ns : List (List UInt8)} {S : Bag},lkB (upsB S ns) b = lkB S b + ns.count b
  | [],S=>by simp [upsB]
  | n :: ns,S=>by
    show lkB (upsB (upB S n) ns) b = _
    rw [zF1,upB,zMD,List.count_cons]
    by_cases e : b = n
    · subst e;simp;omega
    · have : ¬ n = b:=fun h=>e h.symm
      simp [e,this]
theorem zPa {a : List UInt8} {B : Bag} : ∀ {A : Bag},a ∈ zC8 A → lkB (A ++ B) a = lkB A a
  | (k,v) :: r,h=>by
    rw [List.cons_append,lkB,lkB]
    by_cases e : k = a
    · rw [if_pos e,if_pos e]
    · rw [if_neg e,if_neg e,zPa]
      rcases List.mem_cons.1 h with h | h
      · exact absurd h.symm e
      · exact h
theorem Pend.lk {M S : Bag} {c : List UInt8 → Nat} {a : List UInt8} (h : Pend M c S) (hc : 0 < c a) : lkB S a = lkB M a + c a:=by
  obtain ⟨Z,rfl,h2,h3,h4⟩:=h.ex
  have hm:=h4 a hc
  rw [zHh hm]
  by_cases hM : a ∈ zC8 M
  · rw [zPa hM]
  · have h5:=zME hm
    rcases List.mem_append.1 h5 with h6 | h6
    · exact absurd (List.mem_map_of_mem (f:=Prod.fst) h6) hM
    · have h7 : lkB (M ++ Z) a = 0:=(h3 _ h6).1
      rw [zJy hM,h7]
theorem Pend.dnsd {M : Bag} (hM : GoodB M) : ∀ {ns ms : List (List UInt8)} {S : Bag},Pend M (fun a=>(ns ++ ms).count a) S → Pend M (fun a=>ms.count a) (dnsB S ns)
  | [],ms,S,h=>h
  | n :: ns,ms,S,h=>by
    have h1 : Pend M (fun a=>(ns ++ ms).count a) (dnB S n):=h.dn hM (by simp) fun b hb=>by
      have : ¬ n = b:=fun e=>hb e.symm
      simp [this]
    exact Pend.dnsd hM (ns:=ns) h1
theorem zRb {M : Bag} (hM : GoodB M) {ns : List (List UInt8)} {i : Nat} {v : List UInt8} (h : ns[i]? = some v) : 1 ≤ lkB (dnsB (upsB M ns) (ns.take i)) v ∧ lkB (dnsB (upsB M ns) (ns.take i)) v ≤ lkB M v + ns.length:=by
  have h1 : Pend M (fun a=>(ns.take i ++ ns.drop i).count a) (upsB M ns):=by
    have:=(Pend.zero hM).ups (ns:=ns)
    simpa using this
  have h2:=Pend.dnsd hM h1
  have hp : 0 < (ns.drop i).count v:=by
    refine List.count_pos_iff.2 ?_
    exact List.mem_of_getElem? (i:=0) (by rw [List.getElem?_drop];exact h)
  have h3:=h2.lk hp
  have h4 : (ns.drop i).count v ≤ ns.length:=Nat.le_trans List.count_le_length (by rw [List.length_drop];omega)
  omega
def mvB (S : Bag) : List (List UInt8 × D):=S.map fun p=>(p.1,i64 (p.2 : Int))
theorem zPZ (a : List UInt8) : ∀ S : Bag,(zCN (mvB S) a).getD (.val (.int .i64 0)) = i64 (lkB S a : Int)
  | []=>rfl
  | (k,v) :: r=>by
    show (zCN ((k,i64 (v : Int)) :: mvB r) a).getD _ = _
    unfold zCN lkB
    split
    · rfl
    · exact zPZ a r
theorem zPM (a : List UInt8) (v : Nat) : ∀ S : Bag,putK (mvB S) a (i64 (v : Int)) = mvB (putB S a v)
  | []=>rfl
  | (k,u) :: r=>by
    show putK ((k,i64 (u : Int)) :: mvB r) a _ = _
    unfold putK putB
    split
    · rfl
    · show _ :: _ = _ :: _
      congr 1;exact zPM a v r
theorem zSh (a : List UInt8) : ∀ S : Bag,delK (mvB S) a = mvB (delB S a)
  | []=>rfl
  | (k,u) :: r=>by
    show delK ((k,i64 (u : Int)) :: mvB r) a = _
    unfold delK delB
    split
    · rfl
    · show _ :: _ = _ :: _
      congr 1;exact zSh a r
def bagK (k : Int) (tx : List UInt8) (pv : List (List UInt8)) (i : Nat) (S : Bag) : Bag :=
  if k = 5 ∨ k = 8 ∨ ((k = 7 ∨ k = 12) ∧ i = 1) then upsB S [tx] else if k = 10 ∧ 0 < i then upsB S pv else S
mutual
def Tr.free : Tr → Bag → List (List UInt8) → List (List UInt8)
  | .mk x ks,S,F=>if x.kind = 3 then (if lkB S x.text = 0 ∧ x.text ∉ F then F ++ [x.text] else F) else zCa x.kind x.text S [] ks 0 F
def zCa (k : Int) (tx : List UInt8) (S : Bag) : List (List UInt8) → List Tr → Nat → List (List UInt8) → List (List UInt8)
  | _,[],_,F=>F
  | pv,t :: r,i,F=>if k = 10 ∧ i % 2 = 1 then zCa k tx S (zBJ t.fl) r (i + 1) F else zCa k tx S pv r (i + 1) (t.free (bagK k tx pv i S) F)
end
end Go.Proofs.YtblomnkamngnbaaGreatDoor
namespace Go.Proofs.YtblomnkamngnbaaGreatDoor
def vN (n : Int) : Nd:=⟨31,[],n,0⟩
def sub1 (σ : Int → List Nd) (n : Nd) : List Nd:=if n.kind = 31 then σ n.num else [n]
def sub (σ : Int → List Nd) (L : List Nd) : List Nd:=L.flatMap (sub1 σ)
def Vin (x : Int) (L : List Nd) : Prop:=∃ n ∈ L,n.kind = 31 ∧ n.num = x
def Lf (L : List Nd) : Prop:=∀ n ∈ L,n.kind = 31 → n = vN n.num ∧ 0 ≤ n.num ∧ n.num ≤ 1048576
def Whl (L : List Nd) : Prop:=cns L 1 = some L.length
structure Ty (L : List Nd) : Prop where
  whl : Whl L
  lf : Lf L
  rt : ∀ n ∈ L,zBT n = true
theorem zJj (σ : Int → List Nd) : sub σ [] = []:=rfl
theorem zCX (σ : Int → List Nd) (x : Nd) (r : List Nd) : sub σ (x :: r) = sub1 σ x ++ sub σ r:=by simp [sub]
theorem zNx (σ : Int → List Nd) (a b : List Nd) : sub σ (a ++ b) = sub σ a ++ sub σ b:=by simp [sub]
theorem zLy {σ : Int → List Nd} {h : Nd} (hh : h.kind ≠ 31) (r : List Nd) : sub σ (h :: r) = h :: sub σ r:=by
  rw [zCX,sub1,if_neg hh];rfl
theorem zJi (σ : Int → List Nd) (x : Int) : sub σ [vN x] = σ x:=by
  rw [zCX,zJj,List.append_nil];rfl
theorem zOy {σ τ : Int → List Nd} {L : List Nd} (h : ∀ x,Vin x L → σ x = τ x) : sub σ L = sub τ L:=by
  induction L with
  | nil=>rfl
  | cons n r ih =>
    rw [zCX,zCX,ih fun x ⟨m,hm,e⟩=>h x ⟨m,List.mem_cons_of_mem _ hm,e⟩]
    unfold sub1
    split
    · rw [h n.num ⟨n,List.mem_cons_self, ‹_›,rfl⟩]
    · rfl
theorem zS3 (σ τ : Int → List Nd) (L : List Nd) : sub σ (sub τ L) = sub (fun x=>sub σ (τ x)) L:=by
  induction L with
  | nil=>rfl
  | cons n r ih =>
    rw [zCX,zNx,zCX,ih]
    congr 1
    unfold sub1
    split
    · rfl
    · rw [zCX,zJj,List.append_nil,sub1,if_neg ‹_›]
theorem zHJ {x : Int} : ¬ Vin x []:=fun ⟨_,h,_⟩=>by cases h
theorem zBy {x : Int} {n : Nd} {r : List Nd} : Vin x (n :: r) ↔ (n.kind = 31 ∧ n.num = x) ∨ Vin x r:=by
  unfold Vin;simp
theorem zOg {x : Int} {a b : List Nd} : Vin x (a ++ b) ↔ Vin x a ∨ Vin x b:=by
  unfold Vin
  constructor
  · rintro ⟨n,hn,e⟩
    rcases List.mem_append.1 hn with hn | hn
    · exact .inl ⟨n,hn,e⟩
    · exact .inr ⟨n,hn,e⟩
  · rintro (⟨n,hn,e⟩ | ⟨n,hn,e⟩)
    · exact ⟨n,List.mem_append_left _ hn,e⟩
    · exact ⟨n,List.mem_append_right _ hn,e⟩
theorem zIp {x y : Int} : Vin x [vN y] ↔ x = y:=by rw [zBy];simp [vN,zHJ];exact eq_comm
theorem zQo {x : Int} {σ : Int → List Nd} {L : List Nd} : Vin x (sub σ L) ↔ ∃ y,Vin y L ∧ Vin x (σ y):=by
  induction L with
  | nil=>simp [zJj,zHJ]
  | cons n r ih =>
    rw [zCX,zOg,ih]
    unfold sub1
    split
    · rename_i hk
      constructor
      · rintro (h | ⟨y,hy,h⟩)
        · exact ⟨n.num,zBy.2 (.inl ⟨hk,rfl⟩),h⟩
        · exact ⟨y,zBy.2 (.inr hy),h⟩
      · rintro ⟨y,hy,h⟩
        rcases zBy.1 hy with ⟨_,rfl⟩ | hy
        · exact .inl h
        · exact .inr ⟨y,hy,h⟩
    · rename_i hk
      constructor
      · rintro (h | ⟨y,hy,h⟩)
        · rcases zBy.1 h with ⟨h,_⟩ | h
          · exact absurd h hk
          · exact absurd h zHJ
        · exact ⟨y,zBy.2 (.inr hy),h⟩
      · rintro ⟨y,hy,h⟩
        rcases zBy.1 hy with ⟨h0,_⟩ | hy
        · exact absurd h0 hk
        · exact .inr ⟨y,hy,h⟩
theorem zUD {L : List Nd} {σ : Int → List Nd} (hl : Lf L) (h : ∀ x,Vin x L → σ x = [vN x]) : sub σ L = L:=by
  induction L with
  | nil=>rfl
  | cons n r ih =>
    rw [zCX,ih (fun m hm=>hl m (List.mem_cons_of_mem _ hm)) (fun x hx=>h x (zBy.2 (.inr hx)))]
    unfold sub1
    split
    · rename_i hk
      rw [h n.num (zBy.2 (.inl ⟨hk,rfl⟩)), ← (hl n List.mem_cons_self hk).1];rfl
    · rfl
theorem zSR {σ : Int → List Nd} {x : Int} : ∀ {L : List Nd},Vin x L → (σ x).length ≤ (sub σ L).length
  | [],h=>absurd h zHJ
  | n :: r,h=>by
    rw [zCX,List.length_append]
    rcases zBy.1 h with ⟨h1,h2⟩ | h
    · rw [sub1,if_pos h1,h2];omega
    · have:=zSR (σ:=σ) h;omega
theorem zMQ {σ : Int → List Nd} : ∀ {L : List Nd} {o : Nat},Lf L → (∀ x,Vin x L → Whl (σ x)) → cns L o = some L.length → cns (sub σ L) o = some (sub σ L).length
  | [],0,_,_,_=>rfl
  | [],o + 1,_,_,h=>by cases h
  | x :: r,0,_,_,h=>by rw [zDv] at h;injection h with h;simp at h
  | x :: r,o + 1,hl,hw,h=>by
    rw [zCl] at h
    split at h
    · cases h
    · rename_i h0
      cases hc : cns r (o + x.kids.toNat) with
      | none=>rw [hc] at h;cases h
      | some j =>
        rw [hc] at h;simp only [Option.map_some,List.length_cons,Option.some.injEq,Nat.add_right_cancel_iff] at h;subst h
        have ih:=zMQ (σ:=σ) (fun m hm=>hl m (List.mem_cons_of_mem _ hm)) (fun y hy=>hw y (zBy.2 (.inr hy))) hc
        rw [zCX]
        by_cases hk : x.kind = 31
        · have e:=(hl x List.mem_cons_self hk).1
          have e2 : x.kids = 0:=by rw [e];rfl
          rw [e2,show o + (0 : Int).toNat = o from rfl] at ih
          rw [sub1,if_pos hk,Nat.add_comm o 1,zHB,zC3 _ (hw x.num (zBy.2 (.inl ⟨hk,rfl⟩)))]
          simp only [Option.bind_some,List.drop_left,ih,Option.map_some,List.length_append,Option.some.injEq];omega
        · rw [sub1,if_neg hk,List.singleton_append,zCl,if_neg h0,ih];rfl
theorem Ty.sub {σ : Int → List Nd} {L : List Nd} (h : Ty L) (hs : ∀ x,Vin x L → Ty (σ x)) : Ty (sub σ L):=by
  refine ⟨zMQ h.lf (fun x hx=>(hs x hx).whl) h.whl,?_,?_⟩
  · intro n hn hk
    obtain ⟨m,hm,hn⟩:=List.mem_flatMap.1 hn
    unfold sub1 at hn
    split at hn
    · exact (hs _ ⟨m,hm, ‹_›,rfl⟩).lf n hn hk
    · rw [List.mem_singleton] at hn;subst hn;exact absurd hk ‹_›
  · intro n hn
    obtain ⟨m,hm,hn⟩:=List.mem_flatMap.1 hn
    unfold sub1 at hn
    split at hn
    · exact (hs _ ⟨m,hm, ‹_›,rfl⟩).rt n hn
    · rw [List.mem_singleton] at hn;subst hn;exact h.rt n hm
theorem zPE {x : Int} (h : 0 ≤ x ∧ x ≤ 1048576) : zBT (vN x) = true:=by
  rw [zBT,if_pos (show (vN x).kind = 31 from rfl)];exact decide_eq_true ⟨rfl,rfl,h.1,h.2⟩
theorem zN1 {n : Nd} (h : zBT n = true) (hk : n.kind = 31) : n = vN n.num ∧ 0 ≤ n.num ∧ n.num ≤ 1048576:=by
  rw [zBT,if_pos hk] at h
  obtain ⟨h1,h2,h3,h4⟩:=of_decide_eq_true h
  refine ⟨?_,h3,h4⟩
  cases n;simp only at hk h1 h2;subst hk;subst h1;subst h2;rfl
theorem zNj {x : Int} (h : 0 ≤ x ∧ x ≤ 1048576) : Ty [vN x]:=⟨rfl,fun n hn _=>by rw [List.mem_singleton] at hn;subst hn;exact ⟨rfl,h⟩,fun n hn=>by rw [List.mem_singleton] at hn;subst hn;exact zPE h⟩
theorem Ty.cases {L : List Nd} (h : Ty L) : (∃ x,L = [vN x] ∧ 0 ≤ x ∧ x ≤ 1048576) ∨ ∃ (n : Nd) (KK : List (List Nd)),L = n :: KK.flatten ∧ n.kind ≠ 31 ∧ n.kids = KK.length ∧ (∀ K ∈ KK,Ty K) ∧ Node L 0 n KK []:=by
  obtain ⟨n,KK,R,hN,hl⟩:=zMA (L:=L) (n:=0) h.whl
  have hd:=hN.drop
  rw [List.drop_zero] at hd
  have hR : R = []:=by
    have:=congrArg List.length hd
    simp only [List.length_cons,List.length_append] at this
    exact List.eq_nil_of_length_eq_zero (by omega)
  subst hR
  rw [List.append_nil] at hd
  by_cases hk : n.kind = 31
  · obtain ⟨e,hr⟩:=h.lf n (by rw [hd];exact List.mem_cons_self) hk
    have e2 : n.kids = 0:=by rw [e];rfl
    have hKK : KK = []:=List.eq_nil_of_length_eq_zero (by have:=hN.kids;omega)
    subst hKK
    exact .inl ⟨n.num,by rw [hd, ← e];rfl,hr⟩
  · refine .inr ⟨n,KK,hd,hk,hN.kids,fun K hK=>⟨hN.whole K hK,fun m hm=>h.lf m ?_,fun m hm=>h.rt m ?_⟩,hN⟩ <;>
    · rw [hd];exact List.mem_cons_of_mem _ (List.mem_flatten.2 ⟨K,hK,hm⟩)
end Go.Proofs.YtblomnkamngnbaaGreatDoor
