/- Texts of this claim, merged: TypI, InfF, InfZL, InfZA, InfG, TypS, TypJ, TypK. -/
import Derived.Test.YtblomnkamngnbaaGreatDoorRows
import Derived.ProofKit
import Derived.Deep.Slices
import Derived.Deep.Fields
import Derived.ChangeSame
import Derived.OpenShut
import Derived.LaidMore
import Derived.Lay
import Derived.Stop.Joined
import Derived.Stop.LaidErr
import Derived.Shelf.Vars
import Derived.Lib.LaidTab
import Derived.Shelf.SlSortCmp.WholeK
import Derived.Shelf.SlSortCmp.NoneTotal
import Derived.Shelf.SlicesG.Cmp
import Derived.Ground.SlsfProg
import Derived.Ground.SlgcProg
import Derived.Test.YtblomnkamngnbaaGreatDoorMAE
import Derived.Test.YtblomnkamngnbaaGreatDoorMAI
import Derived.Test.YtblomnkamngnbaaGreatDoorMAO
namespace Go.Proofs.YtblomnkamngnbaaGreatDoor
open Go.Sx
def uniF (n : Nat) (L : Sto) (a b : List Nd) : Option (Int × Sto):=if ckT a ≠ 0 ∨ ckT b ≠ 0 then some (90,L) else zEk n L a b
attribute [local irreducible] zAO Program.underlying Ylds zA3 alex zBY zBN awp zAm zBT zBe zAx zBA zBP zA2 zBR zBX zBa zBq zBI
set_option maxHeartbeats 2000000 in
theorem zRl (nx : Int) (n : Nat) (L : Sto) (a b : List Nd) (e : Int) (L' : Sto) (hla : a.length ≤ 2000000) (hlb : b.length ≤ 2000000) (hL : StoB L) (h : uniF n L a b = some (e,L')) :
    zAx Tryz.prog 110 [.ptr 0 0,.d (zAc a),.d (zAc b)] (stO nx L) (.d (i64 e)) (stO nx L'):=by
  refine zAw Tryz.func110 rfl Tryz.ntmps110 Tryz.results110 rfl rfl rfl ?_
  intro wb St0 X fx
  unfold uniF at h
  by_cases hca : ckT a = 0
  · by_cases hcb : ckT b = 0
    · rw [if_neg (by omega)] at h
      have hs:=zPx nx n L a b e L' hL h
      repeat' first | apply en_n|apply zAH|apply zAC|apply zAF|apply w0|(apply zBm;exact rfl;exact rfl;first|assumption|omega)|(apply zAX (hb:=zCR) (hc:=zCb a hla);exact zAZ rfl zAG)|(apply zAX (hb:=zCR) (hc:=zCb b hlb);exact zAZ rfl zAG)|(refine zAy [0,1] zKO (hs) ?_ rfl rfl (by decide) rfl rfl rfl rfl rfl rfl ?_;(repeat (refine zAI rfl ?_));exact zAM)|apply ay (hd:=rfl)|exact zAE rfl|exact zAD rfl|exact zAo rfl rfl|exact zAR rfl|(apply w1;exact rfl;exact rfl)|(apply zAU;exact rfl)|apply zAT|apply zAN
      exact zAh (zAL (zAA rfl zAW) (zAB rfl rfl (zAB rfl rfl zAK)) rfl rfl)
    · rw [if_pos (.inr hcb)] at h
      injection h with h;injection h with h1 h2;subst h1;subst h2
      repeat' first | apply en_n|apply zAH|apply zAC|apply zAF|apply w0|(apply zCT;exact rfl;exact rfl;first|assumption|omega)|(apply zBm;exact rfl;exact rfl;first|assumption|omega)|(apply zAX (hb:=zCR) (hc:=zCb a hla);exact zAZ rfl zAG)|(apply zAX (hb:=zCR) (hc:=zCb b hlb);exact zAZ rfl zAG)|apply ay (hd:=rfl)|exact zAE rfl|exact zAD rfl|exact zAo rfl rfl|(apply w1;exact rfl;exact rfl)|(apply zAQ;exact rfl)|apply zAN|apply en_r
      exact zAh (zAL (zAA rfl zAW) (zAB rfl rfl (zAB rfl rfl zAK)) rfl rfl)
  · rw [if_pos (.inl hca)] at h
    injection h with h;injection h with h1 h2;subst h1;subst h2
    repeat' first | apply en_n|apply zAH|apply zAC|apply zAF|apply w0|(apply k0u (hd:=rfl);exact rfl;exact rfl)|(apply zCT;exact rfl;exact rfl;first|assumption|omega)|(apply zAX (hb:=zCR) (hc:=zCb a hla);exact zAZ rfl zAG)|apply ay (hd:=rfl)|exact zAE rfl|exact zAD rfl|exact zAq rfl rfl|(apply zAQ;exact rfl)|apply zAN|apply en_r
    exact zAh (zAL (zAA rfl zAW) (zAB rfl rfl (zAB rfl rfl zAK)) rfl rfl)
set_option maxHeartbeats 2000000 in
theorem zNB (nx : Int) (L : Sto) (t : List Nd) (ht : t.length ≤ 2000000) (hc : ckT t ≠ 0) :
    zAx Tryz.prog 62 [.ptr 0 0,.d (zAc t)] (stO nx L) (.pair .nil (.d (i64 (ckT t)))) (stO nx L):=by
  refine zAw Tryz.func62 rfl Tryz.ntmps62 Tryz.results62 rfl rfl rfl ?_
  intro wb St0 X fx
  repeat' first | apply en_n|apply zAH|apply zAC|apply zAF|apply w0|(apply zCT;exact rfl;exact rfl;first|assumption|omega)|(apply zAX (hb:=zCR) (hc:=zCb t ht);exact zAZ rfl zAG)|apply ay (hd:=rfl)|exact zAE rfl|exact zAD rfl|exact zAY rfl|(apply zAQ;exact rfl)|apply zAN|apply en_r
  exact zAh ⟨zAL (zAA rfl (zAA rfl zAW)) (zAB rfl rfl (zAB rfl rfl zAK)) rfl rfl,rfl⟩
set_option maxHeartbeats 2000000 in
theorem zNA (nx : Int) (L : Sto) (t : List Nd) (n : Nat) (m : Int) (S' : Seen) (hL : StoB L) (ht : t.length ≤ 1000000) (hc : ckT t = 0) (hs : zGE n L t [] = some (m,S')) (hm : m > 4000) :
    zAx Tryz.prog 62 [.ptr 0 0,.d (zAc t)] (stO nx L) (.pair .nil (.d (i64 92))) (stO nx L):=by
  have hz:=zMY nx L hL n t [] m S' (fun a w h=>by cases h) ht hs
  have ht2 : t.length ≤ 2000000:=by omega
  refine zAw Tryz.func62 rfl Tryz.ntmps62 Tryz.results62 rfl rfl rfl ?_
  intro wb St0 X fx
  repeat' first | apply en_n|apply zAH|apply zAC|apply zAF|apply w0|(apply zE0;exact rfl;exact rfl;first|assumption|omega)|(apply zBm;exact rfl;exact rfl;first|assumption|omega)|(apply zG8 (hd:=rfl) (hro:=rfl);(with_reducible exact zHm);(with_reducible exact zFK))|(apply zAX (hb:=zCR) (hc:=zCb t ht2);exact zAZ rfl zAG)|(refine zAy [0,1,2] zKM (hz) ?_ rfl rfl (by decide) rfl rfl rfl rfl rfl rfl ?_;(repeat (refine zAI rfl ?_));exact zAM)|apply ay (hd:=rfl)|exact zAE rfl|exact zAD rfl|exact zAY rfl|exact zAR rfl|(apply zAQ;exact rfl)|(apply zAU;exact rfl)|apply zAT|apply zAN|apply en_r
  exact zAh ⟨zAL (zAA rfl (zAA rfl zAW)) (zAB rfl rfl (zAB rfl rfl zAK)) rfl rfl,rfl⟩
set_option maxHeartbeats 2000000 in
theorem zPM (nx : Int) (L : Sto) (t r : List Nd) (n n2 : Nat) (m : Int) (S' : Seen) (hL : StoB L) (ht : t.length ≤ 1000000) (hc : ckT t = 0) (hs : zGE n L t [] = some (m,S')) (hm : ¬ m > 4000) (hr : resF n2 L t = some r) (hrl : r.length ≤ 1000000) :
    zAx Tryz.prog 62 [.ptr 0 0,.d (zAc t)] (stO nx L) (.pair (.d (zAc r)) (.d (i64 0))) (stO nx L):=by
  have hz:=zMY nx L hL n t [] m S' (fun a w h=>by cases h) ht hs
  have hw:=zNL nx L n2 t r hr ht hrl hL
  have ht2 : t.length ≤ 2000000:=by omega
  refine zAw Tryz.func62 rfl Tryz.ntmps62 Tryz.results62 rfl rfl rfl ?_
  intro wb St0 X fx
  repeat' first | apply en_n|apply zAH|apply zAC|apply zAF|apply w0|(apply zDw;exact rfl;exact rfl;first|assumption|omega)|(apply zBm;exact rfl;exact rfl;first|assumption|omega)|(apply zG8 (hd:=rfl) (hro:=rfl);(with_reducible exact zHm);(with_reducible exact zFK))|(apply zAX (hb:=zCR) (hc:=zCb t ht2);exact zAZ rfl zAG)|(refine zAy [0,1,2] zKM (hz) ?_ rfl rfl (by decide) rfl rfl rfl rfl rfl rfl ?_;(repeat (refine zAI rfl ?_));exact zAM)|(refine zA6 [0,1] [] rfl rfl zNw (hw) rfl ?_ rfl (by decide) rfl rfl rfl rfl;(repeat (refine zAI rfl ?_));exact zAM)|apply ay (hd:=rfl)|exact zAE rfl|exact zAD rfl|exact zAY rfl|exact zAR rfl|(apply zAU;exact rfl)|apply zAT|apply zAN
  exact zAh ⟨zAL (zAA rfl (zAA rfl zAW)) (zAB rfl rfl (zAB rfl rfl zAK)) rfl rfl,rfl⟩
end Go.Proofs.YtblomnkamngnbaaGreatDoor
namespace Go.Proofs.YtblomnkamngnbaaGreatDoor
open Go.Sx Go.RowKit
theorem zCL : zA9 Tryz.prog 22 = some 2:=by kernel_rfl
theorem zBy : zA9 Tryz.prog 84 = some 3:=by kernel_rfl
theorem zEM : (zB8 Tryz.prog 22).isSome = true:=by kernel_rfl
theorem zDS : (zB8 Tryz.prog 84).isSome = true:=by kernel_rfl
theorem zG1 : zB8 Tryz.prog 22 = some 42:=by kernel_rfl
theorem zCl : zB8 Tryz.prog 84 = some 91:=by kernel_rfl
theorem fg_0 : zBH Tryz.prog 42 0 = some 0:=by kernel_rfl
theorem fg_1 : zBH Tryz.prog 42 1 = some 1:=by kernel_rfl
theorem fy_0 : zBH Tryz.prog 61 0 = some 0:=by kernel_rfl
theorem fy_1 : zBH Tryz.prog 61 1 = some 1:=by kernel_rfl
theorem fy_2 : zBH Tryz.prog 61 2 = some 2:=by kernel_rfl
theorem fy_3 : zBH Tryz.prog 61 3 = some 3:=by kernel_rfl
theorem fl_0 : zBH Tryz.prog 91 0 = some 0:=by kernel_rfl
theorem fl_1 : zBH Tryz.prog 91 1 = some 1:=by kernel_rfl
theorem fl_2 : zBH Tryz.prog 91 2 = some 2:=by kernel_rfl
theorem zIG : zBF Tryz.prog 42 = some (true,2):=by kernel_rfl
theorem zHc : zBF Tryz.prog 91 = some (true,3):=by kernel_rfl
theorem zIF : zBF Tryz.prog 22 = some (false,1):=by kernel_rfl
theorem zEH : zBF Tryz.prog 58 = some (false,1):=by kernel_rfl
theorem zJH : zBF Tryz.prog 76 = some (false,1):=by kernel_rfl
theorem zHb : zDP Tryz.prog 91 = some 3:=by kernel_rfl
theorem zTS : zDP Tryz.prog 42 = some 2:=by kernel_rfl
theorem zFm : zDK Tryz.prog 84 = some 64:=by kernel_rfl
theorem zRF : zDK Tryz.prog 22 = some 40:=by kernel_rfl
theorem zH8 : (zBk Tryz.prog 91).isSome = true:=by kernel_rfl
theorem zPP : (zBk Tryz.prog 42).isSome = true:=by kernel_rfl
theorem zFJ : zBk Tryz.prog 91 = some [.string ByteArray.empty,.slice none 0 0,.slice none 0 0]:=by kernel_rfl
theorem zPR : zBk Tryz.prog 42 = some [.string ByteArray.empty,.slice none 0 0]:=by kernel_rfl
theorem zU9 : zBk Tryz.prog 76 = some [.nilFunc]:=by kernel_rfl
theorem zU8 : zBk Tryz.prog 52 = some [.slice none 0 0]:=by kernel_rfl
theorem zNF : zBk Tryz.prog 61 = some [.pointer none,.slice none 0 0,.slice none 0 0,.int .i64 0]:=by kernel_rfl
theorem zNh : zCu Tryz.prog 61 = some [(0,1),(1,1),(2,1),(3,1)]:=by kernel_rfl
theorem zHe : zCu Tryz.prog 91 = some [(0,1),(1,1),(2,1)]:=by kernel_rfl
theorem zVJ : zCu Tryz.prog 42 = some [(0,1),(1,1)]:=by kernel_rfl
theorem zFj : zAO Tryz.prog 10 = true:=by kernel_rfl
theorem zOy : zAO Tryz.prog 28 = true:=by kernel_rfl
theorem zQi : zAO Tryz.prog 53 = true:=by kernel_rfl
theorem zVj : zAO Tryz.prog 32 = true:=by kernel_rfl
theorem zVe : zAO Tryz.prog 105 = true:=by kernel_rfl
theorem zVh : zAO Tryz.prog 59 = true:=by kernel_rfl
theorem zFC : zAO Tryz.prog 33 = true:=by kernel_rfl
theorem zSu : zAO Tryz.prog 113 = true:=by kernel_rfl
theorem zFh : zAO Tryz.prog 35 = true:=by kernel_rfl
theorem zFi : zAO Tryz.prog 12 = true:=by kernel_rfl
theorem zKR : zAO Tryz.prog 36 = true:=by kernel_rfl
theorem zFg : zAO Tryz.prog 57 = true:=by kernel_rfl
theorem zOx : zAO Tryz.prog 58 = true:=by kernel_rfl
theorem zLf : zAO Tryz.prog 61 = true:=by kernel_rfl
theorem zEU : zAO Tryz.prog 15 = true:=by kernel_rfl
theorem zHy : zAO Tryz.prog 38 = true:=by kernel_rfl
theorem zDO : zAO Tryz.prog 39 = true:=by kernel_rfl
theorem zKT : zAO Tryz.prog 63 = true:=by kernel_rfl
theorem zD3 : zAO Tryz.prog 64 = true:=by kernel_rfl
theorem zEL : zAO Tryz.prog 65 = true:=by kernel_rfl
theorem zCZ : zAO Tryz.prog 66 = true:=by kernel_rfl
theorem zQb : zAO Tryz.prog 67 = true:=by kernel_rfl
theorem zN3 : zAO Tryz.prog 68 = true:=by kernel_rfl
theorem zTk : zAO Tryz.prog 69 = true:=by kernel_rfl
theorem zMr : zAO Tryz.prog 117 = true:=by kernel_rfl
theorem zGQ : zAO Tryz.prog 70 = true:=by kernel_rfl
theorem zLd : zAO Tryz.prog 111 = true:=by kernel_rfl
theorem zKL : zAO Tryz.prog 112 = true:=by kernel_rfl
theorem zSi : zAO Tryz.prog 132 = true:=by kernel_rfl
theorem zQg : zAO Tryz.prog 115 = true:=by kernel_rfl
theorem zUZ : zAO Tryz.prog 116 = true:=by kernel_rfl
theorem zTn : zAO Tryz.prog 135 = true:=by kernel_rfl
structure Sg where
  name : List UInt8
  ty : List Nd
abbrev Sg.cells (s : Sg) : List D:=[str s.name,zAc s.ty]
def Sg.av (s : Sg) : D:=.agg s.cells
def sigs (E : List Sg) : D:=.slice (E.map Sg.av)
structure Lc where
  name : List UInt8
  t : List Nd
  any : List Int
abbrev Lc.cells (s : Lc) : List D:=[str s.name,zAc s.t,zBv s.any]
def Lc.av (s : Lc) : D:=.agg s.cells
def locs (N : List Lc) : D:=.slice (N.map Lc.av)
def zBz : Tr → List (List Nd) × List Nd
  | .mk x [a,b]=>if x.text = arrT then (a.fl :: (zBz b).1,(zBz b).2) else ([],(Tr.mk x [a,b]).fl)
  | t=>([],t.fl)
theorem zFX {x : Nd} {ks : List Tr} (h : x.text ≠ arrT) : zBz (.mk x ks) = ([],(Tr.mk x ks).fl):=by
  unfold zBz;split
  · rename_i y a b he;injection he with h1 h2;subst h1;rw [if_neg h];simp_all
  · rfl
theorem zEm {x : Nd} {a b : Tr} (h : x.text = arrT) : zBz (.mk x [a,b]) = (a.fl :: (zBz b).1,(zBz b).2):=by
  rw [zBz,if_pos h]
theorem zKb {x : Nd} {ks : List Tr} (h : ∀ n ∈ (Tr.mk x ks).fl,zCg n = true) : zCg x = true ∧ ∀ k ∈ ks,∀ n ∈ k.fl,zCg n = true:=by
  rw [Tr.fl] at h
  refine ⟨h x List.mem_cons_self,fun k hk n hn=>h n (List.mem_cons_of_mem _ ?_)⟩
  rw [zEV];exact List.mem_flatten.2 ⟨k.fl,List.mem_map.2 ⟨k,hk,rfl⟩,hn⟩
theorem zUq {x : Nd} (h : zCg x = true) (ht : x.text = arrT) : x.kids = 2:=by
  unfold zCg at h
  rw [ht] at h
  split at h
  · rename_i hk;simp [arrT] at h
  · split at h
    · cases h
    · simpa using h
theorem zKj {x : Nd} {ks : List Tr} (h : ∀ n ∈ (Tr.mk x ks).fl,zCg n = true) (hw : (Tr.mk x ks).wf) (ht : x.text = arrT) : ∃ a b,ks = [a,b]:=by
  have h2:=zUq (zKb h).1 ht
  rw [Tr.wf] at hw
  match ks,hw with
  | [a,b],_=>exact ⟨a,b,rfl⟩
  | [],hw=>simp at hw;omega
  | [_],hw=>simp at hw;omega
  | _ :: _ :: _ :: _,hw=>simp at hw;omega
theorem zHQ : ∀ (m : Nat) (t : Tr),t.sz ≤ m → (zBz t).1.length + (zBz t).2.length ≤ t.sz ∧ (∀ a ∈ (zBz t).1,a.length ≤ t.sz) ∧ ((zBz t).1.map List.length).sum ≤ t.sz
  | 0,t,h=>by have:=zBO t;omega
  | m + 1,t,h=>by
    match t,h with
    | .mk x [a,b],h =>
      rw [Tr.sz,szL,szL,szL] at h
      have hb:=zHQ m b (by omega)
      have hfa:=Tr.fl_len a
      by_cases hx : x.text = arrT
      · rw [zEm hx]
        refine ⟨?_,fun c hc=>?_,?_⟩
        · rw [Tr.sz,szL,szL,szL];simp only [List.length_cons];have:=zBO a;omega
        · rw [Tr.sz,szL,szL,szL]
          rcases List.mem_cons.1 hc with e | e
          · subst e;omega
          · have:=hb.2.1 c e;omega
        · rw [Tr.sz,szL,szL,szL];simp only [List.map_cons,List.sum_cons];omega
      · rw [zFX hx]
        exact ⟨by simp [Tr.fl_len],by simp,by simp⟩
    | .mk x [],h=>exact ⟨by simp [zBz,Tr.fl_len],by simp [zBz],by simp [zBz]⟩
    | .mk x [_],h=>exact ⟨by simp [zBz,Tr.fl_len],by simp [zBz],by simp [zBz]⟩
    | .mk x (_ :: _ :: _ :: _),h=>exact ⟨by simp [zBz,Tr.fl_len],by simp [zBz],by simp [zBz]⟩
def zFY : Nat → List Nd → List (List Nd) × List Nd
  | 0,t=>([],t)
  | m + 1,t=>match t with
    | []=>([],[])
    | x :: _=>if x.text = arrT then (match zBn t 0 with
        | a :: b :: _=>((t.take b.toNat).drop a.toNat :: (zFY m (t.drop b.toNat)).1,(zFY m (t.drop b.toNat)).2)
        | _=>([],t)) else ([],t)
def zBp (t : List Nd) : List (List Nd) × List Nd:=if ckT t = 0 then zFY t.length t else ([],[])
theorem zIS : ∀ (m : Nat) (T : Tr),T.sz ≤ m → T.wf → (∀ n ∈ T.fl,zCg n = true) → zFY m T.fl = zBz T
  | 0,T,h,_,_=>by have:=zBO T;omega
  | m + 1,.mk x ks,h,hw,hr=>by
    have hfl : (Tr.mk x ks).fl = x :: flL ks:=by rw [Tr.fl]
    by_cases ht : x.text = arrT
    · obtain ⟨a,b,rfl⟩:=zKj hr hw ht
      have hk:=(At.top hw).kids
      have e0 : kidAt 0 [a,b] 0 = 1:=zCM 0 _
      have e1 : kidAt 0 [a,b] 1 = 1 + a.sz:=by rw [zDA (k:=a) rfl,e0]
      have hk2 : zBn (Tr.mk x [a,b]).fl 0 = [((1 : Nat) : Int),((1 + a.sz : Nat) : Int)]:=by
        have hk3 : zBn (Tr.mk x [a,b]).fl 0 = [((kidAt 0 [a,b] 0 : Nat) : Int),((kidAt 0 [a,b] 1 : Nat) : Int)]:=hk
        rw [e0,e1] at hk3;exact hk3
      have hfa : (Tr.mk x [a,b]).fl = x :: (a.fl ++ b.fl):=by rw [Tr.fl,flL,flL,flL,List.append_nil]
      have hla:=Tr.fl_len a
      have hXa : ((Tr.mk x [a,b]).fl.take (((1 + a.sz : Nat) : Int)).toNat).drop (((1 : Nat) : Int)).toNat = a.fl:=by
        rw [hfa,Int.toNat_natCast,Int.toNat_natCast,Nat.add_comm,List.take_succ_cons,List.drop_succ_cons,List.drop_zero, ← hla,List.take_left]
      have hXb : (Tr.mk x [a,b]).fl.drop (((1 + a.sz : Nat) : Int)).toNat = b.fl:=by
        rw [hfa,Int.toNat_natCast,Nat.add_comm,List.drop_succ_cons, ← hla,List.drop_left]
      have ih:=zIS m b (by rw [Tr.sz,szL,szL,szL] at h;omega) ((zCK.1 (by rw [Tr.wf] at hw;exact hw.2)) b (by simp)) ((zKb hr).2 b (by simp))
      rw [zEm ht, ← ih, ← hXb, ← hXa]
      generalize (Tr.mk x [a,b]).fl = t at *
      subst hfl
      rw [zFY,if_pos ht,hk2]
    · rw [zFX ht]
      generalize (Tr.mk x ks).fl = t at *
      subst hfl
      rw [zFY,if_neg ht]
theorem zE6 {T : Tr} (hw : T.wf) (h : ckT T.fl = 0) : zBp T.fl = zBz T:=by
  rw [zBp,if_pos h]
  have h2 : okT T.fl = true:=by unfold ckT at h;split at h <;> first | assumption | cases h
  simp only [okT,Bool.and_eq_true,List.all_eq_true] at h2
  exact zIS _ T (by rw [Tr.fl_len];exact Nat.le_refl _) hw h2.2
theorem zKi {t : List Nd} (h : ckT t = 0) : ∃ T : Tr,T.fl = t ∧ T.wf ∧ (∀ n ∈ t,zCg n = true) ∧ T.sz ≤ 4000:=by
  have h2 : okT t = true:=by unfold ckT at h;split at h <;> first | assumption | cases h
  simp only [okT,Bool.and_eq_true,List.all_eq_true,decide_eq_true_eq] at h2
  obtain ⟨T,h3,h4⟩:=zD8.1 h2.1.2
  exact ⟨T,h3,h4,h2.2,by rw [← Tr.fl_len,h3];exact h2.1.1⟩
def envB (E : List Sg) (i : Nat) (s : Sg) : Bool :=
  (!zD1 s.name && !conF s.name) || decide (ckT s.ty ≠ 0) || (E.take i).any (fun x=>decide (x.name = s.name)) ||
  (conF s.name && !conF (((zBp s.ty).2.map Nd.text).headD []))
def zKe (E : List Sg) : Nat → List Sg → Bool
  | _,[]=>true
  | i,s :: r=>!envB E i s && zKe E (i + 1) r
def envF (E : List Sg) : Bool:=zKe E 0 E
mutual
def Tr.val : Tr → Bool
  | .mk x ks=>if 1 ≤ x.kind ∧ x.kind ≤ 5 then true else if x.kind = 6 then (match ks with
    | k :: r=>(decide (k.hd.kind = 4) || decide (k.hd.kind = 6)) && (k.val && valL r)
    | []=>false) else false
def valL : List Tr → Bool
  | []=>true
  | t :: _=>t.val
end
end Go.Proofs.YtblomnkamngnbaaGreatDoor
namespace Go.Proofs.YtblomnkamngnbaaGreatDoor
open Go.ChangeShapes Go.WideShapes Go.ChangeAt Go.RowKit Go.Deep Go.Sx
theorem zPb : Tryz.prog.underlying 22 = some (.slice 42):=by kernel_rfl
theorem zVB : Tryz.prog.underlying 42 = some (.struct #[⟨"Name",9,0,false, "", "",0⟩,⟨"Type",23,1,false, "", "",16⟩]):=by kernel_rfl
theorem zVv : Tryz.prog.cellsOf 42 = 2:=by kernel_rfl
theorem zUL : oneCellFields Tryz.prog #[⟨"Name",9,0,false, "", "",0⟩,⟨"Type",23,1,false, "", "",16⟩] = true:=by kernel_rfl
set_option maxRecDepth 100000 in
theorem zUH {H : Type} {enc : TypeId × Value → H} {W : World} {fuel : Nat} {cs : List Value} {x : DataW H × List MemPlace} (h : DataW.trod enc Tryz.prog W 0 (fun _=>true) true fuel 22 cs = some x) :
    ∃ v E,cs = [v] ∧ v.oneCell' = true ∧ RepD (big W) W v (sigs E):=by
  rcases zIT zPb zVB zUL zVv h with h0 | ⟨a,len,cap,hcs,hl,hm,hi⟩
  · exact ⟨_,[],h0,rfl,zP3⟩
  · obtain ⟨E,hL,hq⟩:=zFF (Q:=fun i (s : Sg)=>W.cell? (a.add (i * 2 + 0)) = some (.string ⟨s.name.toArray⟩) ∧ ∃ u,W.cell? (a.add (i * 2 + 1)) = some u ∧ u.oneCell' = true ∧ RepD (big W) W u (zAc s.ty)) len (fun i hil=>by
      obtain ⟨n,hf⟩:=hi i hil
      obtain ⟨u0,y0,c0,t0⟩:=hf 0 _ rfl
      obtain ⟨u1,y1,c1,t1⟩:=hf 1 _ rfl
      obtain ⟨s,e0,_,_⟩:=DataW.trod_string zTT t0
      injection e0 with e0
      subst e0
      obtain ⟨v,L,e1,o1,r1⟩:=zNl t1
      injection e1 with e1
      subst e1
      exact ⟨⟨s.data.toList,L⟩,c0,u1,c1,o1,r1⟩)
    refine ⟨_,E,hcs,rfl,zLH (sz:=2) (by rw [List.length_map,hL]) hl hm (zCc fun _=>rfl) (by decide) fun i d hd o c hc=>?_⟩
    rw [List.getElem?_map] at hd
    cases hn : E[i]? with
    | none=>rw [hn] at hd;cases hd
    | some s =>
      rw [hn] at hd;injection hd with hd;subst hd
      obtain ⟨h1,u,h2,h3,h4⟩:=hq i s hn
      match o,hc with
      | 0,hc=>injection hc with hc;subst hc;exact ⟨_,h1,rfl,.val _⟩
      | 1,hc=>injection hc with hc;subst hc;exact ⟨u,h2,h3,h4⟩
      | o + 2,hc=>exact absurd hc (by simp [Sg.av,D.flat])
set_option maxRecDepth 100000 in
theorem zR9 {H : Type} {enc : TypeId × Value → H} {W : World} {r : Reach} {b0 : Nat} {v : Value} {d : DataW H} {p : List MemPlace} (hv : Value.okWide Tryz.prog W r b0 22 v) (h : DataW.Trod enc Tryz.prog W 0 (fun _=>true) true 22 v d p) :
    ∃ E,RepD (big W) W v (sigs E):=by
  obtain ⟨a,len,cap,rfl⟩:=okWide_slice zPb hv
  obtain ⟨fuel,hf⟩:=h
  obtain ⟨v',E,hc,_,hr⟩:=zUH hf
  simp [Value.cells] at hc
  subst hc
  exact ⟨E,hr⟩
theorem zVR {l : List UInt8} (h : (⟨l.toArray⟩ : ByteArray).size ≤ Go.maxLen) : l.length ≤ 9223372036854775807:=by
  simpa [ByteArray.size,Go.maxLen] using h
end Go.Proofs.YtblomnkamngnbaaGreatDoor
namespace Go.Proofs.YtblomnkamngnbaaGreatDoor
open Go.ChangeShapes Go.WideShapes Go.ChangeAt Go.RowKit Go.Deep Go.Sx
theorem Tryz.own : ownKnob Tryz.prog.godebug = none:=by kernel_rfl
theorem Tryz.laidOut : laidOutB Tryz.prog = true:=by kernel_rfl
section
variable {H : Type} {enc : TypeId × Value → H}
theorem zPV {a : Assume} {C : Checked} {os : Os} {f : FuncId} {fn : Func} {s : ChangeSpec} {conds : List PathCond} {apart fresh handsOn again : Bool} {X : World → Array Value → Prop}
    (hX : ∀ (w w' : World) (args : Array Value),w.heap = w'.heap → X w args → X w' args)
    (own : ownKnob C.prog.godebug = none) (started : os.Started) (noInit : C.prog.inits.idxOf? f = none) (hfn : C.prog.funcs[f]? = some fn)
    (witness : ∃ (w : World) (tape : Tape) (i : Input),w.os = os ∧ (w.forCall tape i).Shaped C.prog ∧ i.vars = [] ∧ Input.okWide C.prog (w.forCall tape i) .any w.heap.size f i ∧
      ((s.pre enc C.prog fn conds apart (w.forCall tape i).memory i.args ∧ X (w.forCall tape i).memory i.args) ∧ sizedMet enc C.prog fn (OpenSpec.ofChange s) apart (w.forCall tape i).memory i.args) ∧ a.holds C.prog (lone (Frame.enter C.prog f i.args .normal) [] (w.forCall tape i)))
    (contract : ∀ (W : World) (base : Nat) (args : Array Value) (ds gs : List (DataW H)) (before : List MemPlace),
      (∀ (j : Nat) t v,fn.params[j]? = some t → args[j]? = some v → Value.okWide C.prog W .any base t v) →
      DataW.Whole enc C.prog fn.params.toList s.vars apart W args.toList ds gs before → X W args → W.ShapedOpen C.prog →
      Calls C.prog f args W fun e W'=>∃ v,e = .returned v ∧ s.post enc C.prog fn apart fresh handsOn again W args v W') :
    ReturnsInHanded a C os f .any (fun w args=>(s.pre enc C.prog fn conds apart w args ∧ X w args) ∧ sizedMet enc C.prog fn (OpenSpec.ofChange s) apart w args) (s.post enc C.prog fn apart fresh handsOn again):=by
  refine returnsInHanded_of_calls own started noInit witness ?_
  intro w tape i _ hsh _ hok hpre _
  obtain ⟨_,_,_,fn',hfn',_,_,_,_,hval⟩:=hok
  have e : fn' = fn:=Option.some.inj (hfn'.symm.trans hfn)
  subst e
  obtain ⟨⟨⟨ds,gs,before,hw,_⟩,hx⟩,_⟩:=hpre
  have hw':=DataW.Whole.of_heap (w':=w.forCall tape i) (by rfl) hw
  refine (contract (w.forCall tape i) w.heap.size i.args ds gs before hval hw' (hX _ _ _ (by rfl) hx) hsh).mono fun e W' ⟨v,he,hp⟩=>?_
  subst he
  exact ChangeSpec.post_blind hp
end
theorem zK1 {P : Program} {W : World} {n : String} {g : Nat} {cs : Array Value} (hg : P.globalNamed n = some g) (hv : W.var? P n = some cs) : ∃ e t,W.heap[g]? = some (.cells cs e t):=by
  simp only [World.var?,hg,Option.bind_some] at hv
  split at hv
  · rename_i h;injection hv with hv;subst hv;exact ⟨_,_,h⟩
  · cases hv
def zID : List (String × DataW Unit):=Rows.inferTellsRow.laid
theorem zUa {W : World} (hsh : W.ShapedOpen Tryz.prog) (hL : laidMetH Tryz.prog zID W) : Glob (big W) W:=by
  rw [MakeChecks.laidMetH_plain _ _ _ (by kernel_rfl)] at hL
  have h2:=laidMet.tail (laidMet.tail hL)
  have e2 : (Rows.laid_internal_strconv_uint64pow10 : DataW Unit) = Lib.tabData .u64 Lib.pow10Tab:=by kernel_rfl
  rw [e2] at h2
  have ht:=Lib.tabIs_of_head (g:=0) (t:=174) (e:=134) (n:=20) (by kernel_rfl) (by kernel_rfl) (by kernel_rfl) (by kernel_rfl) (by kernel_rfl) (by kernel_rfl) h2
  have h5:=laidMet.tail (laidMet.tail h2)
  have e5 : (Rows.laid_strings_asciiSpace : DataW Unit) = Lib.tabData .u8 Lib.asciiSpaceTab:=by kernel_rfl
  rw [e5] at h5
  have hs:=Lib.tabIs_of_head (g:=1) (t:=176) (e:=5) (n:=256) (by kernel_rfl) (by kernel_rfl) (by kernel_rfl) (by kernel_rfl) (by kernel_rfl) (by kernel_rfl) h5
  obtain ⟨cs8,hh8,_,_⟩:=hsh.1 6 #[.pointer none] 189 (of_decide_eq_true (by kernel_rfl)) (by kernel_rfl)
  have hsz : 6 < W.heap.size:=(Array.getElem?_eq_some_iff.1 hh8).1
  obtain ⟨m,hm⟩:=cell_of_shapedOpen_int (P:=Tryz.prog) (g:=3) (t:=3) (zero:=#[.int .i64 0]) hsh (of_decide_eq_true (by kernel_rfl)) (by kernel_rfl) rfl (by kernel_rfl) (by kernel_rfl) uint
  obtain ⟨cs0,hh,hc0,_⟩:=hsh.1 3 #[.int .i64 0] 3 (of_decide_eq_true (by kernel_rfl)) (by kernel_rfl)
  have hc : cs0 = #[.int .i64 m]:=by
    obtain ⟨l⟩:=cs0
    match l,hc0 with
    | [c],_ =>
      simp [World.cell?,hh] at hm
      rw [hm]
  subst hc
  exact ⟨fun k hk o=>Nat.lt_of_lt_of_le hk hsz,⟨m,_,_,hh⟩,zK1 (by kernel_rfl) ht,zK1 (by kernel_rfl) hs⟩
end Go.Proofs.YtblomnkamngnbaaGreatDoor
namespace Go.Proofs.YtblomnkamngnbaaGreatDoor
open Go.Sx
structure TS where
  nx : Int
  st : Sto
  er : Int
abbrev tyO (L : List Nd) (E : List Sg) (S : TS) : List Ob:=[.bx none none [.ptr 1 0,.d (zAc L),.d (sigs E),.d (i64 S.er)],.bx none none [.d (i64 S.nx),.mp 2],.map none (mSto S.st)]
def zG0 (S : TS) (e : Int) : TS:=if S.er = 0 then { S with er:=e } else S
def zB7 (S : TS) : TS:=if S.nx > 1048576 then zG0 { S with nx:=S.nx + 1 } 113 else { S with nx:=S.nx + 1 }
def zCy (q : Nat) (S : TS) (a b : List Nd) : Option TS:=if S.er ≠ 0 then some S else match uniF q S.st a b with
  | some (e,L)=>some (if e ≠ 0 then zG0 { S with st:=L } 112 else { S with st:=L })
  | none=>none
def zCI (q : Nat) (S : TS) (t : List Nd) : Option (List Nd × TS):=if S.er ≠ 0 then some (t,S) else if ckT t ≠ 0 then some (t,zG0 S 113) else match zGE q S.st t [] with
  | some (m,_)=>if m > 4000 then some (t,zG0 S 113) else match resF q S.st t with
    | some r=>if r.length ≤ 10000 then some (r,S) else none
    | none=>none
  | none=>none
def zBC (s : List UInt8) : List Nd:=[⟨32,s,0,0⟩]
def zEX (a b : List Nd) : List Nd:=⟨32,arrT,0,2⟩ :: (a ++ b)
def zCC : List Int → TS → List Bd × TS
  | [],S=>([],S)
  | v :: r,S=>(⟨v,varN S.nx⟩ :: (zCC r (zB7 S)).1,(zCC r (zB7 S)).2)
def zB0 (S : TS) (t : List Nd) (vs : List Int) : List Nd × TS:=(zDp (zCC vs S).1 t,(zCC vs S).2)
def zHj (E : List Sg) (S : TS) (x : List UInt8) : Option (List Nd × TS):=match E.find? (fun s=>decide (s.name = x)) with
  | some s=>some (zB0 S s.ty (zBb s.ty))
  | none=>none
def zEn (E : List Sg) (N : List Lc) (S : TS) (x : List UInt8) : Option (List Nd × TS):=match N.reverse.find? (fun l=>decide (l.name = x)) with
  | some l=>some (zB0 S l.t l.any)
  | none=>zHj E S x
def zCe (l : List Int) : List Bd:=l.map fun v=>⟨v,zBC intT⟩
def zB3 (q : Nat) : List Lc → TS → Option (List Int × TS)
  | [],S=>some ([],S)
  | l :: r,S=>match zCI q S (zDp (zCe l.any) l.t) with
    | some (u,S1)=>match zB3 q r S1 with
      | some (b,S2)=>some (zBb u ++ b,S2)
      | none=>none
    | none=>none
def anyS (q : Nat) (N : List Lc) (S : TS) (x : List UInt8) (t : List Nd) : Option (Lc × TS):=match zCI q S t with
  | some (u,S1)=>match zB3 q N S1 with
    | some (b,S2)=>some (⟨x,u,(zBb u).filter fun v=>!b.contains v⟩,S2)
    | none=>none
  | none=>none
mutual
def Tr.patS (q : Nat) (E : List Sg) : Tr → List Lc → TS → Option (List Nd × List Lc × TS)
  | .mk x ks,N,S=>if x.kind = 23 then some (zBC intT,N,S) else if x.kind = 21 then some (varN S.nx,N,zB7 S)
    else if x.kind = 22 then some (varN S.nx,N ++ [⟨x.text,varN S.nx,[]⟩],zB7 S)
    else match zHj E S x.text with
      | some (c,S1)=>match patL q E (zBp c).1 ks N S1 with
        | some (N2,S2)=>some ((zBp c).2,N2,S2)
        | none=>none
      | none=>none
def patL (q : Nat) (E : List Sg) : List (List Nd) → List Tr → List Lc → TS → Option (List Lc × TS)
  | _,[],N,S=>some (N,S)
  | a :: ar,k :: r,N,S=>match k.patS q E N S with
    | some (t,N1,S1)=>match zCy q S1 t a with
      | some S2=>patL q E ar r N1 S2
      | none=>none
    | none=>none
  | [],_ :: _,_,_=>none
end
mutual
def Tr.expS (q : Nat) (E : List Sg) : Tr → List Lc → TS → Option (List Nd × TS)
  | .mk x ks,N,S=>if S.er ≠ 0 then some (zBC intT,S) else if x.kind = 1 then some (zBC intT,S) else if x.kind = 2 then some (zBC texT,S)
    else if x.kind = 3 ∨ x.kind = 4 then (match zEn E N (zB7 S) x.text with
      | some (u,S1)=>(match zCy q S1 (varN S.nx) u with
        | some S2=>some (varN S.nx,S2)
        | none=>none)
      | none=>none)
    else expK q E x (List.length ks) ks N S
def expK (q : Nat) (E : List Sg) (x : Nd) (_n : Nat) : List Tr → List Lc → TS → Option (List Nd × TS)
  | [],_,_=>none
  | k :: r,N,S=>if x.kind = 5 then (match k.expS q E (N ++ [⟨x.text,varN S.nx,[]⟩]) (zB7 S) with
      | some (b,S1)=>some (zEX (varN S.nx) b,S1)
      | none=>none)
    else if x.kind = 8 then (match k.expS q E (N ++ [⟨x.text,varN S.nx,[]⟩]) (zB7 S) with
      | some (t,S1)=>(match zCy q S1 (varN S.nx) t with
        | some S2=>(match anyS q N S2 x.text (varN S.nx) with
          | some (y,S3)=>exp1 q E r (N ++ [y]) S3
          | none=>none)
        | none=>none)
      | none=>none)
    else (match k.expS q E N S with
      | some (t,S1)=>if x.kind = 7 then (if k.val then (match anyS q N S1 x.text t with
            | some (y,S2)=>exp1 q E r (N ++ [y]) S2
            | none=>none) else exp1 q E r (N ++ [⟨x.text,t,[]⟩]) S1)
          else if x.kind = 6 then (match exp1 q E r N S1 with
            | some (a,S2)=>(match zCy q (zB7 S2) t (zEX a (varN S2.nx)) with
              | some S3=>some (varN S2.nx,S3)
              | none=>none)
            | none=>none)
          else if x.kind = 9 then (match zCy q S1 t (zBC intT) with
            | some S2=>expI q E r N S2
            | none=>none)
          else if x.kind = 11 then (match zCy q S1 t (zBC intT) with
            | some S2=>some (varN S2.nx,zB7 S2)
            | none=>none)
          else if x.kind = 12 then (match exp1 q E r (N ++ [⟨x.text,zBC intT,[]⟩]) S1 with
            | some (b,S2)=>(match zCy q S2 t b with
              | some S3=>some (t,S3)
              | none=>none)
            | none=>none)
          else (match expM q E t (varN S1.nx) r N (zB7 S1) with
            | some S2=>some (varN S1.nx,S2)
            | none=>none)
      | none=>none)
def exp1 (q : Nat) (E : List Sg) : List Tr → List Lc → TS → Option (List Nd × TS)
  | [],_,_=>none
  | k :: _,N,S=>k.expS q E N S
def expI (q : Nat) (E : List Sg) : List Tr → List Lc → TS → Option (List Nd × TS)
  | [],_,_=>none
  | k :: r,N,S=>match k.expS q E N S with
    | some (t,S1)=>(match exp1 q E r N S1 with
      | some (b,S2)=>(match zCy q S2 t b with
        | some S3=>some (t,S3)
        | none=>none)
      | none=>none)
    | none=>none
def expM (q : Nat) (E : List Sg) (of to' : List Nd) : List Tr → List Lc → TS → Option TS
  | [],_,S=>some S
  | p :: r,N,S=>match p.patS q E N S with
    | some (t,N1,S1)=>(match zCy q S1 t of with
      | some S2=>expN q E of to' N1 r N S2
      | none=>none)
    | none=>none
def expN (q : Nat) (E : List Sg) (of to' : List Nd) (N1 : List Lc) : List Tr → List Lc → TS → Option TS
  | [],_,_=>none
  | k :: r,N,S=>match k.expS q E N1 S with
    | some (b,S1)=>(match zCy q S1 b to' with
      | some S2=>expM q E of to' r N S2
      | none=>none)
    | none=>none
end
end Go.Proofs.YtblomnkamngnbaaGreatDoor
namespace Go.Proofs
end Go.Proofs
namespace Go.Proofs.YtblomnkamngnbaaGreatDoor
open Go.Sx Go.Shelf Go.RowKit Go.Lib Go.Sort
structure Bc where
  var : Int
  ty : Value
  one : ty.oneCell' = true
instance : Inhabited Bc:=⟨⟨0,.int .i64 0,rfl⟩⟩
end Go.Proofs.YtblomnkamngnbaaGreatDoor
namespace Go.Proofs.YtblomnkamngnbaaGreatDoor
open Go.Sx
attribute [local irreducible] zAO Program.underlying Ylds zA3 alex zBY zBN awp zAm zBT zBe zAx zBA zBP zA2 zBR zBX zBa zBq zBI
end Go.Proofs.YtblomnkamngnbaaGreatDoor
namespace Go.Proofs.YtblomnkamngnbaaGreatDoor
open Go.Sx
attribute [local irreducible] zAO Program.underlying Ylds zA3 alex zBY zBN awp zAm zBT zBe zAx zBA zBP zA2 zBR zBX zBa zBq zBI
theorem zSD (n : Nd) : zAm Tryz.prog 76 [n.av] (bl false):=by
  refine zAd Tryz.func76 rfl Tryz.ntmps76 Tryz.results76 rfl ?_
  intro wb St0
  repeat' first | apply en_n|apply zAH|apply zAC|apply zAF|apply w0|(apply aBox (hd:=rfl) (hro:=rfl);exact rfl;exact rfl)|apply ay (hd:=rfl)|exact zAD rfl|apply zAN|apply zAP|(apply res1;exact rfl)
  all_goals rfl
theorem zSC (n : Nd) : zAm Tryz.prog 77 [n.av] (bl (decide (n.kids > 0))):=by
  refine zAd Tryz.func77 rfl Tryz.ntmps77 Tryz.results77 rfl ?_
  intro wb St0
  repeat' first | apply en_n|apply zAH|apply zAC|apply zAF|apply w0|(apply aBox (hd:=rfl) (hro:=rfl);exact rfl;exact rfl)|apply ay (hd:=rfl)|exact zAD rfl|exact zHp rfl rfl|(apply zAS;exact rfl;(with_reducible exact fn_3))|(apply zAV;exact rfl;(with_reducible exact zAz);exact rfl;exact rfl)|apply zAN|apply zAP|(apply res1;exact rfl)
  all_goals rfl
theorem zSE (n : Nd) : zAm Tryz.prog 75 [n.av] (bl (decide (n.text = [45,62]))):=by
  refine zAd Tryz.func75 rfl Tryz.ntmps75 Tryz.results75 rfl ?_
  intro wb St0
  repeat' first | apply en_n|apply zAH|apply zAC|apply zAF|apply w0|exact zHa rfl rfl|(apply aBox (hd:=rfl) (hro:=rfl);exact rfl;exact rfl)|apply ay (hd:=rfl)|exact zAD rfl|(apply zAS;exact rfl;(with_reducible exact fn_1))|(apply zAV;exact rfl;(with_reducible exact zA4);exact rfl;exact rfl)|apply zAN|apply zAP|(apply res1;exact rfl)
  all_goals rfl
def argF (f : Nat → Option (List UInt8 × Nat)) (L : List Nd) (p : Nd → Bool) (i : Nat) : Option (List UInt8 × Nat):=match L[i]?,f i with
  | some y,some (s,j)=>some (if p y then 40 :: s ++ [41] else s,j)
  | _,_=>none
def zHk : Nat → List Nd → Nat → Option (List UInt8 × Nat)
  | 0,_,_=>none
  | n + 1,L,i=>match L[i]? with
    | none=>none
    | some x =>
      if x.kind = 31 then some (39 :: Lib.itoa x.num,i + 1)
      else if x.text = [45,62] then (match argF (zHk n L) L (fun y=>decide (y.text = [45,62])) (i + 1) with
        | some (u,j)=>(match argF (zHk n L) L (fun _=>false) j with
          | some (v,k)=>some (u ++ [32,45,62,32] ++ v,k)
          | none=>none)
        | none=>none)
      else zBc (fun (p : List UInt8 × Nat) (_ : Nat)=>match argF (zHk n L) L (fun y=>decide (y.kids > 0)) p.2 with
        | some (u,j)=>some (p.1 ++ 32 :: u,j)
        | none=>none) (x.text,i + 1) (List.range x.kids.toNat)
end Go.Proofs.YtblomnkamngnbaaGreatDoor
