/- Texts of this claim, merged: LexG, TypF, SynF, SynS, SynG, TypU, LexH. -/
import Derived.Shelf.Sort.Plain
import Derived.Shelf.Slices.In.SortNone
import Derived.Lib.SlicesCompact
import Derived.Test.YtblomnkamngnbaaGreatDoorMAB
import Derived.Test.YtblomnkamngnbaaGreatDoorMAC
import Derived.Test.YtblomnkamngnbaaGreatDoorMAD
import Derived.Test.YtblomnkamngnbaaGreatDoorMAE
import Derived.Test.YtblomnkamngnbaaGreatDoorMAG
import Derived.Test.YtblomnkamngnbaaGreatDoorMAH
namespace Go.Proofs.YtblomnkamngnbaaGreatDoor
open Go.Sx
attribute [local irreducible] zAO Program.underlying Ylds zA3 alex zBY zBN awp zAm zBT zBe zAx zBA zBP zA2 zBR zBX zBa zBq
def zGn (p : UInt8 → Bool) (s : List UInt8) : Bool:=allF zFA s && p (s.getD 0 0) && !zMm s
def zEI (t : Tk) : Bool :=
  if t.pos < 0 then false
  else if t.kind = 1 then decide (t.num = 0) && zGn zDt t.text
  else if t.kind = 2 then decide (t.num = 0) && zGn zDY t.text
  else if t.kind = 3 then decide (t.text = []) && decide (W t.num = t.num)
  else if t.kind = 4 then decide (t.num = 0) && decide (t.text.length ≤ 200)
  else if t.kind = 5 then decide (t.num = 0) && allF zDT t.text && !zMm t.text
  else if t.kind = 6 then decide (t.num = 0) && zMm t.text
  else false
theorem zQW (c : UInt8) (h : c.toNat > 126) : zFA c = false:=by
  simp only [zFA,zDt,zDY,zGP,zVD, ← Bool.decide_or,show ((95 : UInt8).toNat : Int) = 95 from rfl,show ((39 : UInt8).toNat : Int) = 39 from rfl]
  rw [decide_eq_false_iff_not];omega
theorem zSA (c : UInt8) (h : c.toNat > 126) : zDT c = false:=by
  refine zK9 fun j hj e=>?_
  subst e
  have : ∀ k,k < 16 → (signL.getD k 0).toNat ≤ 126:=by decide
  have:=this j hj
  omega
theorem zTA {p : UInt8 → Bool} {s : List UInt8} (h : allF p s = true) : 0 < s.length:=by
  cases s with
  | nil=>simp [allF] at h
  | cons=>simp
abbrev Tk.cells (t : Tk) : List SV:=[.d (i64 t.kind),.d (str t.text),.d (i64 t.num),.d (i64 t.pos)]
theorem zMN (t : Tk) (f : FuncId) (p : UInt8 → Bool) (hb : zAO Tryz.prog f = true) (hp : ∀ c,zAm Tryz.prog f [u8 c] (bl (p c))) :
    zBA Tryz.prog 84 [.clo f [],.ptr 0 0] [.box t.cells] (bl (zGn p t.text)):=by
  have hbf:=hb;clear hb
  refine zBw Tryz.func84 rfl Tryz.ntmps84 Tryz.results84 rfl ?_
  intro wb St0
  repeat' first | apply en_n|apply zAH|apply zAC|apply zAF|apply w0|(apply k1u (hd:=rfl);exact rfl;exact rfl)|exact zA8 rfl|(apply zML (hb:=hbf) (hc:=hp (t.text.getD 0 0));exact rfl)|(refine zA6 [] [] rfl rfl zTl (zTv _ zFA zSq zSf zQW t.text) rfl ?_ rfl (by decide) rfl rfl rfl rfl;(repeat (refine zAI rfl ?_));exact zAM)|(apply zAX (hb:=zTm) (hc:=zT3 t.text))|apply ay (hd:=rfl)|exact zAE rfl|exact zAD rfl|exact zCS rfl|exact zAq rfl rfl|exact zAo rfl rfl|(apply zAS;exact rfl;(with_reducible exact fo_1))|(apply zAV;exact rfl;(with_reducible exact zK4);exact rfl;exact rfl)|(apply w1;exact rfl;exact rfl)|(apply g1;exact rfl;exact rfl;(intro hb);rotate_left;(intro hb);rotate_right)|apply zAN|apply zAP|(apply res1;exact rfl)|exact zAG|refine zAZ rfl ?_
  · have:=zTA hb
    exact zKq (i:=0) rfl rfl (by with_reducible exact ustr) ⟨by omega,by omega⟩
  all_goals exact zD6 (by simp only [zGn, *];first | rfl | simp)
set_option maxHeartbeats 4000000 in
theorem zH7 (t : Tk) : zAm Tryz.prog 48 [t.av] (bl (zEI t)):=by
  refine zAd Tryz.func48 rfl Tryz.ntmps48 Tryz.results48 rfl ?_
  intro wb St0
  repeat' first | apply en_n|apply zAH|apply zAC|apply zAF|apply w0|(apply kU (hd:=rfl);exact rfl;exact rfl)|(apply k1u (hd:=rfl);exact rfl;exact rfl)|(apply k0u (hd:=rfl);exact rfl;exact rfl)|(apply zC2;exact rfl;with_reducible exact ustr)|exact zJn rfl rfl|(refine zA6 [0] [0] rfl rfl zLh (zMN t _ zDt zNz zNV) rfl ?_ rfl (by decide) rfl rfl rfl rfl;(repeat (refine zAI rfl ?_));exact zAM)|(refine zA6 [0] [0] rfl rfl zLh (zMN t _ zDY zN2 zN6) rfl ?_ rfl (by decide) rfl rfl rfl rfl;(repeat (refine zAI rfl ?_));exact zAM)|(refine zA6 [] [] rfl rfl zTl (zTv _ zDT zUT zUI zSA t.text) rfl ?_ rfl (by decide) rfl rfl rfl rfl;(repeat (refine zAI rfl ?_));exact zAM)|(apply zAX (hb:=zTm) (hc:=zT3 t.text))|(refine zAX zNy (zNM t.num) (zAZ rfl zAG))|(apply aBox (hd:=rfl) (hro:=rfl);exact rfl;exact rfl)|apply ay (hd:=rfl)|exact zAE rfl|exact zAD rfl|exact zDG rfl rfl|exact zI7 rfl rfl|exact zD7 rfl rfl|exact zJD rfl rfl|exact zCS rfl|exact zAq rfl rfl|exact zAo rfl rfl|exact zA8 rfl|exact zC4 rfl|(apply zAS;exact rfl;(with_reducible first|exact fo_0|exact fo_1|exact fo_2|exact fo_3))|(apply zAV;exact rfl;(with_reducible first|exact zK4|exact zTU|exact zPi|exact zTV);exact rfl;exact rfl)|exact zGV rfl|(apply w1;exact rfl;exact rfl)|(apply gD;exact rfl;exact rfl;(intro hb);rotate_left;(intro hb);rotate_right)|(apply g1;exact rfl;exact rfl;(intro hb);rotate_left;(intro hb);rotate_right)|(apply zA1;exact rfl;(intro hb);rotate_left;(intro hb);rotate_right)|(apply zAQ;exact rfl)|(apply zAU;exact rfl)|apply zAJ|apply zAT|apply zAN|refine zBQ (by kernel_rfl) (by kernel_rfl) ?_|apply en_r|apply eb_n|apply eb_r|apply zAP|(apply res1;exact rfl)|exact zAG|refine zAZ rfl ?_
  all_goals exact zD6 (by simp_all [zEI] <;> (rw [show decide (t.pos < 0) = false from decide_eq_false (by omega),Bool.not_false,Bool.true_and,decide_eq_decide];omega))
end Go.Proofs.YtblomnkamngnbaaGreatDoor
namespace Go.Proofs.YtblomnkamngnbaaGreatDoor
open Go.Sx Go.RowKit
theorem zGB : zA9 Tryz.prog 128 = some 2:=by kernel_rfl
theorem zS0 : (zB8 Tryz.prog 128).isSome = true:=by kernel_rfl
theorem zG2 : zB8 Tryz.prog 128 = some 147:=by kernel_rfl
theorem fb_0 : zBH Tryz.prog 147 0 = some 0:=by kernel_rfl
theorem fb_1 : zBH Tryz.prog 147 1 = some 1:=by kernel_rfl
theorem fs_0 : zBH Tryz.prog 81 0 = some 0:=by kernel_rfl
theorem fs_1 : zBH Tryz.prog 81 1 = some 1:=by kernel_rfl
theorem zUE : zBF Tryz.prog 147 = some (true,2):=by kernel_rfl
theorem zFT : zBF Tryz.prog 79 = some (false,1):=by kernel_rfl
theorem zNP : zBF Tryz.prog 123 = some (false,1):=by kernel_rfl
theorem zVE : zBF Tryz.prog 58 = some (false,1):=by kernel_rfl
theorem zUD : zBF Tryz.prog 32 = some (false,1):=by kernel_rfl
theorem zPU : zDP Tryz.prog 147 = some 2:=by kernel_rfl
theorem zOH : zDK Tryz.prog 128 = some 32:=by kernel_rfl
theorem zPQ : (zBk Tryz.prog 147).isSome = true:=by kernel_rfl
theorem zU7 : zBk Tryz.prog 123 = some [.map none]:=by kernel_rfl
theorem zVA : zBk Tryz.prog 32 = some [.nilFunc]:=by kernel_rfl
theorem zHn : zDk Tryz.prog 79 = some (3,23):=by kernel_rfl
theorem zHm : zDk Tryz.prog 123 = some (2,3):=by kernel_rfl
theorem zFK : Tryz.prog.underlying 2 = some (.int .i64):=by kernel_rfl
theorem zDx : zGM Tryz.prog 23 = some (.slice []):=by kernel_rfl
theorem zJE : zGM Tryz.prog 3 = some (.val (.int .i64 0)):=by kernel_rfl
theorem zSO : zCu Tryz.prog 81 = some [(0,1),(1,1)]:=by kernel_rfl
theorem zRy : zBk Tryz.prog 81 = some [.int .i64 0,.map none]:=by kernel_rfl
theorem zP9 : zCu Tryz.prog 147 = some [(0,1),(1,1)]:=by kernel_rfl
theorem zPT : zBk Tryz.prog 147 = some [.int .i64 0,.slice none 0 0]:=by kernel_rfl
theorem zEd : zCu Tryz.prog 40 = some [(0,1),(1,1),(2,1),(3,1)]:=by kernel_rfl
theorem zVI : zCu Tryz.prog 68 = some [(0,1),(1,1),(2,1),(3,1)]:=by kernel_rfl
theorem zSn : zAO Tryz.prog 52 = true:=by kernel_rfl
theorem zCR : zAO Tryz.prog 31 = true:=by kernel_rfl
theorem zQk : zAO Tryz.prog 51 = true:=by kernel_rfl
theorem zVi : zAO Tryz.prog 50 = true:=by kernel_rfl
theorem zVf : zAO Tryz.prog 93 = true:=by kernel_rfl
theorem zVg : zAO Tryz.prog 133 = true:=by kernel_rfl
theorem zQl : zAO Tryz.prog 134 = true:=by kernel_rfl
theorem zN5 : zAO Tryz.prog 114 = true:=by kernel_rfl
theorem zIk : zAO Tryz.prog 71 = true:=by kernel_rfl
theorem zSt : zAO Tryz.prog 40 = true:=by kernel_rfl
theorem zKW : zAO Tryz.prog 55 = true:=by kernel_rfl
theorem zIh : zAO Tryz.prog 130 = true:=by kernel_rfl
theorem zMq : zAO Tryz.prog 41 = true:=by kernel_rfl
theorem zKN : zAO Tryz.prog 74 = true:=by kernel_rfl
theorem zSm : zAO Tryz.prog 75 = true:=by kernel_rfl
theorem zSl : zAO Tryz.prog 76 = true:=by kernel_rfl
theorem zSk : zAO Tryz.prog 77 = true:=by kernel_rfl
theorem zUX : zAO Tryz.prog 18 = true:=by kernel_rfl
theorem zIl : zAO Tryz.prog 37 = true:=by kernel_rfl
theorem zN4 : zAO Tryz.prog 109 = true:=by kernel_rfl
theorem zLg : zAO Tryz.prog 110 = true:=by kernel_rfl
theorem zHT : zAO Tryz.prog 62 = true:=by kernel_rfl
theorem zKO : zAO Tryz.prog 131 = true:=by kernel_rfl
theorem zKM : zAO Tryz.prog 107 = true:=by kernel_rfl
theorem zNw : zAO Tryz.prog 108 = true:=by kernel_rfl
theorem zDR : zAO Tryz.prog 157 = true:=by kernel_rfl
theorem zQf : zAO Tryz.prog 158 = true:=by kernel_rfl
theorem zN0 : zAO Tryz.prog 173 = true:=by kernel_rfl
def arrT : List UInt8:=[45,62]
def intT : List UInt8:=[105,110,116]
def texT : List UInt8:=[116,101,120,116]
def refT : List UInt8:=[114,101,102]
def zCg (n : Nd) : Bool :=
  if n.kind = 31 then decide (n.kids = 0 ∧ n.text = [] ∧ 0 ≤ n.num ∧ n.num ≤ 1048576)
  else if n.kind ≠ 32 ∨ n.num ≠ 0 then false
  else if n.text = arrT then decide (n.kids = 2)
  else if n.text = intT ∨ n.text = texT then decide (n.kids = 0)
  else if n.text = refT then decide (n.kids = 1)
  else zEI ⟨2,n.text,0,0⟩ && decide (n.kids ≤ 8)
def okT (L : List Nd) : Bool:=decide (L.length ≤ 4000) && zCH L && L.all zCg
def ckT (L : List Nd) : Int:=if okT L then 0 else 90
structure Bd where
  var : Int
  ty : List Nd
def Bd.av (b : Bd) : D:=.agg [.val (.int .i64 b.var),zAc b.ty]
def binds (l : List Bd) : D:=.slice (l.map Bd.av)
def addV (acc : List Int) (n : Nd) : List Int:=if n.kind = 31 ∧ n.num ∉ acc then acc ++ [n.num] else acc
def zBu (L : List Nd) : List Int:=L.foldl addV []
def zBb (L : List Nd) : List Int:=if okT L then zBu L else []
def can1 (vs : List Int) (n : Nd) : Nd:=if n.kind = 31 then { n with num:=idxF vs n.num } else n
def zB2 (L : List Nd) : List Nd:=if okT L then L.map (can1 (zBu L)) else []
def app1 (l : List Bd) (n : Nd) : List Nd:=if n.kind = 31 then (match l.find? fun b=>b.var = n.num with | some b=>b.ty | none=>[n]) else [n]
def zDp (l : List Bd) (L : List Nd) : List Nd:=L.flatMap (app1 l)
def varN (n : Int) : List Nd:=[⟨31,[],n,0⟩]
end Go.Proofs.YtblomnkamngnbaaGreatDoor
namespace Go.Proofs.YtblomnkamngnbaaGreatDoor
open Go.Sx Go.RowKit
theorem ff_0 : zBH Tryz.prog 139 0 = some 0:=by kernel_rfl
theorem ff_1 : zBH Tryz.prog 139 1 = some 1:=by kernel_rfl
theorem ff_2 : zBH Tryz.prog 139 2 = some 2:=by kernel_rfl
theorem ff_3 : zBH Tryz.prog 139 3 = some 3:=by kernel_rfl
theorem ff_4 : zBH Tryz.prog 139 4 = some 4:=by kernel_rfl
theorem fd_0 : zBH Tryz.prog 120 0 = some 0:=by kernel_rfl
theorem fd_1 : zBH Tryz.prog 120 1 = some 1:=by kernel_rfl
theorem fd_2 : zBH Tryz.prog 120 2 = some 2:=by kernel_rfl
theorem zE3 : zBF Tryz.prog 139 = some (true,5):=by kernel_rfl
theorem zTW : zBF Tryz.prog 34 = some (false,1):=by kernel_rfl
theorem zNQ : zBF Tryz.prog 115 = some (false,1):=by kernel_rfl
theorem zJG : zBF Tryz.prog 118 = some (false,1):=by kernel_rfl
theorem zDU : zBk Tryz.prog 139 = some [.bool false,.bool false,.nilFunc,.nilFunc,.bool false]:=by kernel_rfl
theorem zHP : zCu Tryz.prog 139 = some [(0,1),(1,1),(2,1),(3,1),(4,1)]:=by kernel_rfl
theorem zPS : zBk Tryz.prog 120 = some [.slice none 0 0,.map none,.slice none 0 0]:=by kernel_rfl
theorem zP8 : zCu Tryz.prog 120 = some [(0,1),(1,1),(2,1)]:=by kernel_rfl
theorem fy_s : fnTy Tryz.prog 34 = true:=by kernel_rfl
theorem zIW : zDk Tryz.prog 118 = some (9,3):=by kernel_rfl
theorem zHF : zGM Tryz.prog 3 = some (.val (.int .i64 0)):=by kernel_rfl
theorem zMf : zCu Tryz.prog 68 = some [(0,1),(1,1),(2,1),(3,1)]:=by kernel_rfl
theorem zKP : zAO Tryz.prog 29 = true:=by kernel_rfl
theorem zKQ : zAO Tryz.prog 30 = true:=by kernel_rfl
theorem zKS : zAO Tryz.prog 143 = true:=by kernel_rfl
theorem zSp : zAO Tryz.prog 166 = true:=by kernel_rfl
theorem zFk : zAO Tryz.prog 126 = true:=by kernel_rfl
theorem zO0 : zAO Tryz.prog 144 = true:=by kernel_rfl
theorem zOz : zAO Tryz.prog 145 = true:=by kernel_rfl
theorem zDZ : zAO Tryz.prog 104 = true:=by kernel_rfl
theorem zSj : zAO Tryz.prog 97 = true:=by kernel_rfl
theorem zHx : zAO Tryz.prog 95 = true:=by kernel_rfl
theorem zLe : zAO Tryz.prog 56 = true:=by kernel_rfl
theorem zJV : zAO Tryz.prog 96 = true:=by kernel_rfl
theorem zJU : zAO Tryz.prog 98 = true:=by kernel_rfl
theorem zIi : zAO Tryz.prog 100 = true:=by kernel_rfl
theorem zQc : zAO Tryz.prog 103 = true:=by kernel_rfl
theorem zCz : zAO Tryz.prog 34 = true:=by kernel_rfl
theorem zUY : zAO Tryz.prog 60 = true:=by kernel_rfl
theorem zIj : zAO Tryz.prog 106 = true:=by kernel_rfl
theorem zIg : zAO Tryz.prog 129 = true:=by kernel_rfl
def zD1 (s : List UInt8) : Bool:=zEI ⟨1,s,0,0⟩ || zEI ⟨5,s,0,0⟩
def conF (s : List UInt8) : Bool:=zEI ⟨2,s,0,0⟩
def patK (k : Int) : Bool:=decide (21 ≤ k ∧ k ≤ 24)
def okK (k : Int) : Bool:=decide ((1 ≤ k ∧ k ≤ 12) ∨ (21 ≤ k ∧ k ≤ 24))
def numK (k : Int) : Bool:=decide (k = 1 ∨ k = 23)
def namK (k : Int) : Bool:=decide (k = 3 ∨ k = 5 ∨ k = 7 ∨ k = 8 ∨ k = 12 ∨ k = 22)
def cntK (k n : Int) : Bool :=
  if k = 5 ∨ k = 11 then decide (n = 1) else if k = 6 ∨ k = 7 ∨ k = 8 ∨ k = 12 then decide (n = 2) else if k = 9 then decide (n = 3)
  else if k = 10 then decide (3 ≤ n ∧ n % 2 = 1) else if k = 24 then true else decide (n = 0)
def zE7 (x : Nd) (k1 : Int) (pat : Bool) : Int :=
  if okK x.kind = false ∨ patK x.kind ≠ pat ∨ cntK x.kind x.kids = false then 61
  else if (numK x.kind = true ∧ W x.num ≠ x.num) ∨ (numK x.kind = false ∧ x.num ≠ 0) then 61
  else if (x.kind = 2 ∧ 200 < x.text.length) ∨ (x.kind ≠ 2 ∧ namK x.kind = false ∧ x.kind ≠ 4 ∧ x.kind ≠ 24 ∧ x.text ≠ []) then 61
  else if x.kind = 8 ∧ k1 ≠ 5 then 61
  else if (namK x.kind = true ∧ zD1 x.text = false) ∨ ((x.kind = 4 ∨ x.kind = 24) ∧ conF x.text = false) then 62
  else 0
def Tr.kind1 : Tr → Int
  | .mk _ (k :: _)=>k.hd.kind
  | .mk _ []=>0
mutual
def Tr.werr : Tr → Bool → Int
  | .mk x ks,pat=>if zE7 x (Tr.kind1 (.mk x ks)) pat ≠ 0 then zE7 x (Tr.kind1 (.mk x ks)) pat else zC6 (decide (x.kind = 10)) pat ks 0
def zC6 (m pat : Bool) : List Tr → Nat → Int
  | [],_=>0
  | t :: r,i=>if t.werr (pat || (m && decide (i % 2 = 1))) ≠ 0 then t.werr (pat || (m && decide (i % 2 = 1))) else zC6 m pat r (i + 1)
end
def zBJ (L : List Nd) : List (List UInt8):=L.filterMap fun n=>if n.kind = 22 then some n.text else none
mutual
def Tr.tw : Tr → Bool
  | .mk x ks=>if patK x.kind then !decide (zBJ (x :: flL ks)).Nodup else twL ks
def twL : List Tr → Bool
  | []=>false
  | t :: r=>t.tw || twL r
end
end Go.Proofs.YtblomnkamngnbaaGreatDoor
namespace Go.Proofs
open Go.Shelf Go.RowKit Go.Lib Go.Sort
theorem Tryz.sortNone (p : Option Addr) (cap : Nat) (w : World) :
    Calls Tryz.prog 101 #[.slice p 0 cap] w fun e w'=>e = .returned (.tuple #[]) ∧ w' = w:=Any.slices_Sort_string_none Tryz.lays190 p cap w
theorem Tryz.compactNone (a : Option Addr) (cap : Nat) (w : World) : Calls Tryz.prog 102 #[.slice a 0 cap] w fun e w'=>e = .returned (.slice a 0 cap) ∧ w' = w:=Any.slices_Compact_string_empty Tryz.lays194 a cap w
end Go.Proofs
namespace Go.Proofs.YtblomnkamngnbaaGreatDoor
open Go.Sx Go.Shelf Go.RowKit Go.Lib Go.Sort
def srtT (L : List (List UInt8)) : List (List UInt8):=L.mergeSort fun x y=>decide (x ≤ y)
theorem zGe (L : List (List UInt8)) : (srtT L).Perm L:=List.mergeSort_perm _ _
theorem zMW (L : List (List UInt8)) : (srtT L).Pairwise fun x y=>x ≤ y:=by
  have:=List.pairwise_mergeSort (le:=fun x y : List UInt8=>decide (x ≤ y)) (fun a b c h1 h2=>by simp at *;exact List.le_trans h1 h2) (fun a b=>by simp;exact List.le_total a b) L
  exact this.imp fun h=>by simpa using h
theorem zIw (zs : List (List UInt8)) : (Lib.compact zs).length = ((List.range zs.length).filter (keeps zs.toArray)).length:=by
  rw [Lib.compact,compactUpTo,List.length_map]
theorem zJg (zs : List (List UInt8)) : (Lib.compact zs).length ≤ zs.length:=by
  rw [zIw]
  have:=List.length_filter_le (keeps zs.toArray) (List.range zs.length)
  rwa [List.length_range] at this
theorem zM1 {zs : List (List UInt8)} (hs : zs.Pairwise fun x y=>x ≤ y) : (Lib.compact zs).length < zs.length ↔ ¬ zs.Nodup:=by
  have hk : (Lib.compact zs).length = zs.length ↔ ∀ j,j < zs.length → keeps zs.toArray j = true:=by
    rw [zIw]
    conv=>lhs;rhs;rw [← List.length_range (n:=zs.length)]
    rw [List.length_filter_eq_length_iff]
    simp only [List.mem_range]
  have hle:=zJg zs
  have hget : ∀ j (hj : j < zs.length),zs.toArray[j]! = zs[j]:=fun j hj=>by rw [getElem!_pos _ _ (by simpa using hj)];simp
  have hn : zs.Nodup ↔ ∀ j,j < zs.length → keeps zs.toArray j = true:=by
    rw [List.Nodup,List.pairwise_iff_getElem]
    rw [List.pairwise_iff_getElem] at hs
    constructor
    · intro h j hj
      by_cases h0 : j = 0
      · subst h0;exact keeps_lt_one _ 0 (by omega)
      · refine keeps_pos ?_
        rw [hget j hj,hget (j - 1) (by omega)]
        exact fun e=>h (j - 1) j (by omega) hj (by omega) e.symm
    · intro h i j hi hj hij e
      have h1:=h j hj
      simp only [keeps,decide_eq_true_eq] at h1
      rcases h1 with h1 | h1
      · omega
      · rw [hget j hj,hget (j - 1) (by omega)] at h1
        apply h1
        rcases Nat.lt_or_ge i (j - 1) with h2 | h2
        · have a1:=hs i (j - 1) hi (by omega) h2
          have a2:=hs (j - 1) j (by omega) hj (by omega)
          rw [e] at a1
          exact List.le_antisymm a1 a2 |>.symm ▸ rfl
        · have : i = j - 1:=by omega
          subst this;exact e.symm
  rw [hn, ← hk];omega
theorem putW_row {w : World} {b n : Nat} {d : Array (List UInt8)} {os : Array Obj} {us : Array Value} {e : TypeId} (hb : w.heap[b]? = some (.cells us e (0,0))) :
    (grow (putRow encStr (Sort.ahead w n) b 0 d) os).heap[b]? = some (.cells (putCells encStr 0 d us) e (0,0)):=by
  have hlt : b < w.heap.size:=(Array.getElem?_eq_some_iff.1 hb).1
  simp only [grow,putRow,mapBlock,Sort.ahead]
  rw [Array.getElem?_append_left (by simpa using hlt),Array.getElem?_modify,if_pos rfl,hb]
  rfl
theorem zOl {w : World} {b n k : Nat} {d : Array (List UInt8)} {os : Array Obj} (hk : k < w.heap.size) (hne : k ≠ b) :
    (grow (putRow encStr (Sort.ahead w n) b 0 d) os).heap[k]? = w.heap[k]?:=by
  simp only [grow,putRow,mapBlock,Sort.ahead]
  rw [Array.getElem?_append_left (by simpa using hk),Array.getElem?_modify,if_neg (fun h=>hne h.symm)]
theorem zLK {w : World} {b n : Nat} {d : Array (List UInt8)} {os : Array Obj} : w.heap.size ≤ (grow (putRow encStr (Sort.ahead w n) b 0 d) os).heap.size:=by
  simp only [grow,putRow,mapBlock,Sort.ahead,Array.size_append,Array.size_modify]
  omega
theorem zLs (L : List (List UInt8)) : zB5 (L.map str) = L.map str:=by
  induction L with
  | nil=>rfl
  | cons x L ih=>show str x :: zB5 (L.map str) = _;rw [ih];rfl
theorem putS {g : Gh} {w : World} {id b e n : Nat} {L L' : List (List UInt8)} {os : Array Obj} (hl : L'.length = L.length) (hi : ObOk g w id (.buf true e 1 (L.map str))) (hb : g.blk id = some b) (_hstb : ∀ b o,g.St b o → b < w.heap.size) :
    (∀ k,k < w.heap.size → g.blk id ≠ some k → (grow (putRow encStr (Sort.ahead w n) b 0 L'.toArray) os).heap[k]? = w.heap[k]?) ∧ ObOk g (grow (putRow encStr (Sort.ahead w n) b 0 L'.toArray) os) id (.buf true e 1 (L'.map str)):=by
  obtain ⟨o1,o2,o3,o4,o5⟩:=hi
  have hoth : ∀ k,k < w.heap.size → k ≠ b → (grow (putRow encStr (Sort.ahead w n) b 0 L'.toArray) os).heap[k]? = w.heap[k]?:=fun k hk hne=>zOl hk hne
  refine ⟨fun k hk hne=>hoth k hk fun e=>hne (by rw [hb,e]),?_⟩
  rcases o5 with ⟨o5,_⟩ | ⟨b',us,hb',hw,hus,h1,h2,h3⟩
  · rw [hb] at o5;cases o5
  · rw [hb] at hb';injection hb' with hb';subst hb'
    rw [List.length_map] at o4 h1 h3
    have hin : ∀ t,t < L'.length → (putCells encStr 0 L'.toArray us)[t]? = some (encStr (L'.toArray[t]!)):=fun t ht=>by
      simp only [putCells,Array.getElem?_mapIdx,Array.getElem?_eq_getElem (show t < us.size by omega),Option.map_some]
      rw [if_pos ⟨Nat.zero_le _,by simpa using ht⟩];simp
    refine ⟨o1,fun x hx=>by obtain ⟨v,_,rfl⟩:=List.mem_map.1 hx;rfl,o3,by rw [List.length_map,hl];exact o4,.inr ⟨b,_,hb,putW_row hw,by simp [putCells,hus],fun j u hj hu=>?_,fun j u dd hu hdd=>?_,fun o=>?_⟩⟩
    · rw [List.length_map] at hj
      rw [hin j (by omega)] at hu;injection hu with hu;subst hu;rfl
    · rw [zLs,List.getElem?_map] at hdd
      cases hq : L'[j]? with
      | none=>rw [hq] at hdd;cases hdd
      | some s =>
        rw [hq] at hdd;injection hdd with hdd;subst hdd
        have hj:=(List.getElem?_eq_some_iff.1 hq).1
        rw [hin j hj] at hu;injection hu with hu;subst hu
        have : L'.toArray[j]! = s:=by rw [getElem!_pos _ _ (by simpa using hj)];simpa using (List.getElem?_eq_some_iff.1 hq).2
        rw [this];exact .val _
    · rw [List.length_map,hl];exact h3 o
theorem rowS {g : Gh} {w : World} {id b e : Nat} {L : List (List UInt8)} (hi : ObOk g w id (.buf true e 1 (L.map str))) (hb : g.blk id = some b) : Holds encStr w b 0 L.toArray ∧ b < w.heap.size ∧ L.length ≤ g.cap id:=by
  obtain ⟨o1,o2,o3,o4,o5⟩:=hi
  rcases o5 with ⟨o5,_⟩ | ⟨b',us,hb',hw,hus,h1,h2,h3⟩
  · rw [hb] at o5;cases o5
  · rw [hb] at hb';injection hb' with hb';subst hb'
    rw [List.length_map] at o4 h1
    refine ⟨fun j hj=>?_,(Array.getElem?_eq_some_iff.1 hw).1,o4⟩
    have hj' : j < L.length:=by simpa using hj
    have hu : us[j]? = some (us[j]'(by omega)):=Array.getElem?_eq_getElem _
    have hL : L[j]? = some L[j]:=List.getElem?_eq_getElem hj'
    have r:=h2 j _ (str L[j]) hu (by rw [zLs,List.getElem?_map,hL];rfl)
    have hv:=RepD.val_eq r
    constructor
    · simp only [World.cell?,hw,Option.isSome_none,Bool.false_eq_true,if_false,Nat.zero_add]
      rw [getElem!_pos _ _ (by simpa using hj')]
      rw [hu,hv];simp
    · simp [World.frozen?,hw]
theorem zMX (g : Gh) (w : World) (id e : Nat) (L : List (List UInt8)) (hbd : L.length ≤ 2000000) (hi : ObOk g w id (.buf true e 1 (L.map str))) (hstb : ∀ b o,g.St b o → b < w.heap.size) :
    Calls Tryz.prog 101 #[.slice ((g.blk id).map (⟨·,0,none⟩)) L.length (g.cap id)] w fun e' w' =>
      e' = .returned (.tuple #[]) ∧ w'.os = w.os ∧ w'.tape = w.tape ∧ w'.output = w.output ∧ w.heap.size ≤ w'.heap.size ∧ (∀ k,k < w.heap.size → g.blk id ≠ some k → w'.heap[k]? = w.heap[k]?) ∧ ObOk g w' id (.buf true e 1 ((srtT L).map str)):=by
  cases hb : g.blk id with
  | none =>
    have hL : L = []:=by
      obtain ⟨o1,o2,o3,o4,o5⟩:=hi
      rcases o5 with ⟨_,o5⟩ | ⟨b',us,hb',_⟩
      · rw [List.length_map] at o4;exact List.eq_nil_of_length_eq_zero (by omega)
      · rw [hb] at hb';cases hb'
    subst hL
    refine (Tryz.sortNone none (g.cap id) w).mono ?_
    rintro e' w' ⟨rfl,rfl⟩
    exact ⟨rfl,rfl,rfl,rfl,Nat.le_refl _,fun _ _ _=>rfl,by rw [show srtT [] = [] by simp [srtT]];exact hi⟩
  | some b =>
    obtain ⟨hH,hlt,_⟩:=rowS hi hb
    refine (Tryz.slices_Sort_string b 0 (g.cap id) L w hH hlt (by omega)).mono ?_
    rintro e' w' ⟨rfl,n,os,rfl⟩
    obtain ⟨h1,h2⟩:=putS (L':=srtT L) (n:=n) (os:=os) ((zGe L).length_eq) hi hb hstb
    rw [hb] at h1
    exact ⟨rfl,rfl,rfl,rfl,zLK,h1,h2⟩
theorem zJB (g : Gh) (w : World) (id e b : Nat) (L : List (List UInt8)) (hbd : L.length ≤ 2000000) (hi : ObOk g w id (.buf true e 1 (L.map str))) (hb : g.blk id = some b) (hstb : ∀ b o,g.St b o → b < w.heap.size) :
    Calls Tryz.prog 102 #[.slice ((g.blk id).map (⟨·,0,none⟩)) L.length (g.cap id)] w fun e' w' =>
      e' = .returned (.slice ((g.blk id).map (⟨·,0,none⟩)) (Lib.compact L).length (g.cap id)) ∧ w'.os = w.os ∧ w'.tape = w.tape ∧ w'.output = w.output ∧ w.heap.size ≤ w'.heap.size ∧ (∀ k,k < w.heap.size → g.blk id ≠ some k → w'.heap[k]? = w.heap[k]?) ∧ ObOk g w' id (.buf true e 1 ((Lib.compact L ++ List.replicate (L.length - (Lib.compact L).length) []).map str)):=by
  obtain ⟨hH,hlt,hc⟩:=rowS hi hb
  have hle:=zJg L
  rw [hb]
  refine (Tryz.slices_Compact_string b 0 (g.cap id) L w hH (by omega) hc).mono ?_
  rintro e' w' ⟨rfl,n,rfl⟩
  have hg : ∀ w : World,grow w #[] = w:=fun w=>by simp [grow]
  obtain ⟨h1,h2⟩:=putS (L':=Lib.compact L ++ List.replicate (L.length - (Lib.compact L).length) []) (n:=n) (os:=#[]) (by simp;omega) hi hb hstb
  rw [hg] at h1 h2
  rw [hb] at h1
  have hs:=zLK (w:=w) (b:=b) (n:=n) (d:=(Lib.compact L ++ List.replicate (L.length - (Lib.compact L).length) []).toArray) (os:=#[])
  rw [hg] at hs
  exact ⟨rfl,rfl,rfl,rfl,hs,h1,h2⟩
end Go.Proofs.YtblomnkamngnbaaGreatDoor
namespace Go.Proofs.YtblomnkamngnbaaGreatDoor
open Go.Sx
abbrev Bag:=List (List UInt8 × Nat)
def lkB : Bag → List UInt8 → Nat
  | [],_=>0
  | (k,v) :: r,a=>if k = a then v else lkB r a
def putB : Bag → List UInt8 → Nat → Bag
  | [],a,v=>[(a,v)]
  | (k,u) :: r,a,v=>if k = a then (k,v) :: r else (k,u) :: putB r a v
def delB : Bag → List UInt8 → Bag
  | [],_=>[]
  | (k,u) :: r,a=>if k = a then r else (k,u) :: delB r a
def zDE (S : Bag) : List (List UInt8):=S.map Prod.fst
def upB (S : Bag) (a : List UInt8) : Bag:=putB S a (lkB S a + 1)
def dnB (S : Bag) (a : List UInt8) : Bag:=if lkB S a - 1 = 0 then delB (putB S a (lkB S a - 1)) a else putB S a (lkB S a - 1)
def zD5 (c : List UInt8 → Nat) (S : Bag) : Bag:=S.map fun p=>(p.1,p.2 + c p.1)
theorem zKE {a : List UInt8} : ∀ {S : Bag},a ∉ zDE S → lkB S a = 0
  | [],_=>rfl
  | (k,v) :: r,h=>by
    have h1 : k ≠ a:=fun e=>h (by rw [e];exact List.mem_cons_self)
    rw [lkB,if_neg h1,zKE fun hm=>h (List.mem_cons_of_mem _ hm)]
theorem zLL {a : List UInt8} {v : Nat} : ∀ {S : Bag},a ∉ zDE S → putB S a v = S ++ [(a,v)]
  | [],_=>rfl
  | (k,u) :: r,h=>by
    have h1 : k ≠ a:=fun e=>h (by rw [e];exact List.mem_cons_self)
    rw [putB,if_neg h1,zLL fun hm=>h (List.mem_cons_of_mem _ hm)];rfl
theorem zJT (c : List UInt8 → Nat) (S : Bag) : zDE (zD5 c S) = zDE S:=by
  simp [zDE,zD5,Function.comp_def]
theorem zI1 {c d : List UInt8 → Nat} {S : Bag} (h : ∀ a ∈ zDE S,c a = d a) : zD5 c S = zD5 d S :=
  List.map_congr_left fun p hp=>by rw [h p.1 (List.mem_map_of_mem hp)]
theorem zHv {c : List UInt8 → Nat} {a : List UInt8} : ∀ {S : Bag},a ∈ zDE S → lkB (zD5 c S) a = lkB S a + c a
  | (k,v) :: r,h=>by
    show lkB ((k,v + c k) :: zD5 c r) a = _
    rw [lkB,lkB]
    by_cases e : k = a
    · rw [if_pos e,if_pos e,e]
    · rw [if_neg e,if_neg e,zHv]
      rcases List.mem_cons.1 h with h | h
      · exact absurd h.symm e
      · exact h
theorem zIN {c d : List UInt8 → Nat} {a : List UInt8} {v : Nat} : ∀ {S : Bag},(zDE S).Nodup → a ∈ zDE S → v = lkB S a + d a → (∀ b,b ≠ a → c b = d b) → putB (zD5 c S) a v = zD5 d S
  | (k,u) :: r,hn,h,hv,hc=>by
    have hn':=List.nodup_cons.1 hn
    show putB ((k,u + c k) :: zD5 c r) a v = (k,u + d k) :: zD5 d r
    rw [lkB] at hv
    rw [putB]
    by_cases e : k = a
    · rw [if_pos e] at hv ⊢
      subst e
      rw [hv,zI1 (d:=d) fun b hb=>hc b fun e=>hn'.1 (by rw [← e];exact hb)]
    · rw [if_neg e] at hv ⊢
      rw [hc k e,zIN hn'.2 ?_ hv hc]
      rcases List.mem_cons.1 h with h | h
      · exact absurd h.symm e
      · exact h
theorem zL5 {c : List UInt8 → Nat} {a : List UInt8} : ∀ (M : Bag) {Z : Bag},a ∉ zDE M → delB (zD5 c (M ++ Z)) a = zD5 c (M ++ delB Z a)
  | [],Z,_=>by
    rw [List.nil_append,List.nil_append]
    induction Z with
    | nil=>rfl
    | cons p r ih =>
      obtain ⟨k,u⟩:=p
      show delB ((k,u + c k) :: zD5 c r) a = _
      rw [delB,delB]
      by_cases e : k = a
      · rw [if_pos e,if_pos e]
      · rw [if_neg e,if_neg e,ih];rfl
  | (k,u) :: M,Z,h=>by
    have h1 : k ≠ a:=fun e=>h (by rw [e];exact List.mem_cons_self)
    show delB ((k,u + c k) :: zD5 c (M ++ Z)) a = (k,u + c k) :: zD5 c (M ++ delB Z a)
    rw [delB,if_neg h1,zL5 M fun hm=>h (List.mem_cons_of_mem _ hm)]
theorem zOA {a : List UInt8} : ∀ {Z : Bag} {p : List UInt8 × Nat},p ∈ delB Z a → p ∈ Z
  | (k,u) :: r,p,h=>by
    rw [delB] at h
    split at h
    · exact List.mem_cons_of_mem _ h
    · rcases List.mem_cons.1 h with h | h
      · rw [h];exact List.mem_cons_self
      · exact List.mem_cons_of_mem _ (zOA h)
theorem zL3 {a b : List UInt8} (hb : b ≠ a) : ∀ {Z : Bag},b ∈ zDE Z → b ∈ zDE (delB Z a)
  | (k,u) :: r,h=>by
    rw [delB]
    split
    · rename_i e
      rcases List.mem_cons.1 h with h | h
      · exact absurd (h.trans e) hb
      · exact h
    · rcases List.mem_cons.1 h with h | h
      · exact h ▸ List.mem_cons_self
      · exact List.mem_cons_of_mem _ (zL3 hb h)
theorem zHf {a : List UInt8} : ∀ {Z : Bag},(delB Z a).Sublist Z
  | []=>List.Sublist.refl _
  | (k,u) :: r=>by
    rw [delB]
    split
    · exact List.sublist_cons_self _ _
    · exact List.Sublist.cons_cons _ zHf
theorem zL4 {a : List UInt8} : ∀ {Z : Bag},(zDE Z).Nodup → a ∉ zDE (delB Z a)
  | [],_=>by simp [delB,zDE]
  | (k,u) :: r,hn=>by
    have hn':=List.nodup_cons.1 hn
    rw [delB]
    split
    · rename_i e;rw [← e];exact hn'.1
    · rename_i e
      intro h
      rcases List.mem_cons.1 h with h | h
      · exact e h.symm
      · exact zL4 hn'.2 h
structure GoodB (M : Bag) : Prop where
  nd : (zDE M).Nodup
  pos : ∀ p ∈ M,0 < p.2
structure Pend (M : Bag) (c : List UInt8 → Nat) (S : Bag) : Prop where
  ex : ∃ Z : Bag,S = zD5 c (M ++ Z) ∧ (zDE (M ++ Z)).Nodup ∧ (∀ p ∈ Z,p.2 = 0 ∧ 0 < c p.1) ∧ ∀ a,0 < c a → a ∈ zDE (M ++ Z)
theorem zMl {S : Bag} {a : List UInt8} : a ∈ zDE S → (a,lkB S a) ∈ S:=by
  induction S with
  | nil=>intro h;cases h
  | cons p r ih =>
    obtain ⟨k,v⟩:=p
    intro h
    rw [lkB]
    by_cases e : k = a
    · rw [if_pos e,e];exact List.mem_cons_self
    · rw [if_neg e]
      rcases List.mem_cons.1 h with h | h
      · exact absurd h.symm e
      · exact List.mem_cons_of_mem _ (ih h)
theorem Pend.zero {M : Bag} (h : GoodB M) : Pend M (fun _=>0) M :=
  ⟨[],by rw [List.append_nil];simp [zD5],by rw [List.append_nil];exact h.nd,fun p hp=>by (cases hp),fun a h=>by omega⟩
theorem Pend.done {M S : Bag} {c : List UInt8 → Nat} (hc : ∀ a,c a = 0) (h : Pend M c S) : S = M:=by
  obtain ⟨Z,rfl,_,h3,_⟩:=h.ex
  cases Z with
  | nil=>rw [List.append_nil];simp [zD5,hc]
  | cons p r=>have:=(h3 p List.mem_cons_self).2;rw [hc] at this;omega
theorem Pend.up {M S : Bag} {c d : List UInt8 → Nat} {a : List UInt8} (hd : d a = c a + 1) (hdb : ∀ b,b ≠ a → c b = d b) (h : Pend M c S) : Pend M d (upB S a):=by
  obtain ⟨Z,rfl,h2,h3,h4⟩:=h.ex
  by_cases hm : a ∈ zDE (M ++ Z)
  · refine ⟨Z,?_,h2,fun p hp=>⟨(h3 p hp).1,?_⟩,fun b hb=>?_⟩
    · exact zIN h2 hm (by rw [zHv hm];omega) hdb
    · have:=(h3 p hp).2
      by_cases e : p.1 = a
      · rw [e,hd];omega
      · rw [← hdb _ e];exact this
    · by_cases e : b = a
      · rw [e];exact hm
      · exact h4 b (by rw [hdb b e];exact hb)
  · have hc0 : c a = 0:=Nat.eq_zero_of_not_pos fun hp=>hm (h4 a hp)
    refine ⟨Z ++ [(a,0)],?_,?_,fun p hp=>?_,fun b hb=>?_⟩
    · have hk : a ∉ zDE (zD5 c (M ++ Z)):=by rw [zJT];exact hm
      rw [upB,zKE hk,zLL hk,zI1 (d:=d) fun b hb=>hdb b fun e=>hm (e ▸ hb), ← List.append_assoc]
      simp [zD5,hd,hc0]
    · rw [← List.append_assoc]
      unfold zDE at h2 hm ⊢
      rw [List.map_append,List.nodup_append]
      exact ⟨h2,by simp,fun x hx y hy e=>hm (by simp at hy;subst hy;exact e ▸ hx)⟩
    · rcases List.mem_append.1 hp with hp | hp
      · have:=h3 p hp
        by_cases e : p.1 = a
        · exact ⟨this.1,by rw [e,hd];omega⟩
        · exact ⟨this.1,by rw [← hdb _ e];exact this.2⟩
      · simp at hp;subst hp
        exact ⟨rfl,by show 0 < d a;omega⟩
    · unfold zDE
      rw [← List.append_assoc,List.map_append]
      by_cases e : b = a
      · exact List.mem_append_right _ (by simp [e])
      · exact List.mem_append_left _ (h4 b (by rw [hdb b e];exact hb))
theorem Pend.dn {M S : Bag} {c d : List UInt8 → Nat} {a : List UInt8} (hM : GoodB M) (hd : c a = d a + 1) (hdb : ∀ b,b ≠ a → c b = d b) (h : Pend M c S) : Pend M d (dnB S a):=by
  obtain ⟨Z,rfl,h2,h3,h4⟩:=h.ex
  have hm : a ∈ zDE (M ++ Z):=h4 a (by omega)
  have hl:=zHv (c:=c) hm
  have hput : putB (zD5 c (M ++ Z)) a (lkB (zD5 c (M ++ Z)) a - 1) = zD5 d (M ++ Z):=zIN h2 hm (by rw [hl];omega) hdb
  have hmem:=zMl hm
  unfold dnB
  rw [hput]
  by_cases h0 : lkB (zD5 c (M ++ Z)) a - 1 = 0
  · rw [if_pos h0]
    have hz : lkB (M ++ Z) a = 0:=by omega
    have hd0 : d a = 0:=by omega
    rw [hz] at hmem
    have haM : a ∉ zDE M:=fun hk=>by
      have h5:=zMl hk
      have h6 : lkB (M ++ Z) a = lkB M a:=by
        have : ∀ (A B : Bag),a ∈ zDE A → lkB (A ++ B) a = lkB A a:=by
          intro A B
          induction A with
          | nil=>intro h;cases h
          | cons p r ih =>
            obtain ⟨k,v⟩:=p
            intro h
            rw [List.cons_append,lkB,lkB]
            by_cases e : k = a
            · rw [if_pos e,if_pos e]
            · rw [if_neg e,if_neg e,ih]
              rcases List.mem_cons.1 h with h | h
              · exact absurd h.symm e
              · exact h
        exact this M Z hk
      have:=hM.pos _ h5
      simp only at this;omega
    have hn2:=h2
    unfold zDE at hn2
    rw [List.map_append,List.nodup_append] at hn2
    refine ⟨delB Z a,zL5 M haM,?_,fun p hp=>?_,fun b hb=>?_⟩
    · exact h2.sublist ((List.Sublist.append (List.Sublist.refl M) zHf).map _)
    · have h5:=h3 p (zOA hp)
      have h6 : p.1 ≠ a:=fun e=>zL4 (a:=a) hn2.2.1 (by have h7:=List.mem_map_of_mem (f:=Prod.fst) hp;rw [e] at h7;exact h7)
      exact ⟨h5.1,by rw [← hdb _ h6];exact h5.2⟩
    · have hba : b ≠ a:=fun e=>by rw [e,hd0] at hb;omega
      have h5:=h4 b (by rw [hdb b hba];exact hb)
      unfold zDE at h5 ⊢
      rw [List.map_append] at h5 ⊢
      rcases List.mem_append.1 h5 with h5 | h5
      · exact List.mem_append_left _ h5
      · exact List.mem_append_right _ (zL3 hba h5)
  · rw [if_neg h0]
    refine ⟨Z,rfl,h2,fun p hp=>⟨(h3 p hp).1,?_⟩,fun b hb=>?_⟩
    · by_cases e : p.1 = a
      · have h5 : lkB (M ++ Z) a = 0:=by
          have hn2:=h2
          unfold zDE at hn2
          rw [List.map_append,List.nodup_append] at hn2
          have haM : a ∉ zDE M:=fun hk=>hn2.2.2 a hk a (e ▸ List.mem_map_of_mem hp) rfl
          rcases List.mem_append.1 hmem with h6 | h6
          · exact absurd (List.mem_map_of_mem (f:=Prod.fst) h6) haM
          · exact (h3 _ h6).1
        rw [e];omega
      · rw [← hdb _ e];exact (h3 p hp).2
    · by_cases e : b = a
      · rw [e];exact hm
      · exact h4 b (by rw [hdb b e];exact hb)
def upsB (S : Bag) (ns : List (List UInt8)) : Bag:=ns.foldl upB S
def dnsB (S : Bag) (ns : List (List UInt8)) : Bag:=ns.foldl dnB S
theorem Pend.ups {M : Bag} : ∀ {ns : List (List UInt8)} {S : Bag} {c : List UInt8 → Nat},Pend M c S → Pend M (fun a=>c a + ns.count a) (upsB S ns)
  | [],S,c,h=>by simpa [upsB] using h
  | n :: ns,S,c,h=>by
    have h1:=(h.up (a:=n) (d:=fun b=>if b = n then c b + 1 else c b) (by simp) (fun b hb=>by simp [hb])).ups (ns:=ns)
    have e : (fun a=>(if a = n then c a + 1 else c a) + ns.count a) = fun a=>c a + (n :: ns).count a:=by
      funext a
      rw [List.count_cons]
      by_cases ha : a = n
      · subst ha;simp;omega
      · have : ¬ n = a:=fun e=>ha e.symm
        simp [ha,this]
    rw [e] at h1
    exact h1
theorem Pend.dns {M : Bag} (hM : GoodB M) : ∀ {ns : List (List UInt8)} {S : Bag},Pend M (fun a=>ns.count a) S → dnsB S ns = M
  | [],S,h=>h.done fun a=>by simp
  | n :: ns,S,h=>by
    have h1 : Pend M (fun a=>ns.count a) (dnB S n):=h.dn hM (by simp) fun b hb=>by
      have : ¬ n = b:=fun e=>hb e.symm
      simp [this]
    exact Pend.dns hM (ns:=ns) h1
theorem zVw {M : Bag} (hM : GoodB M) (ns : List (List UInt8)) : dnsB (upsB M ns) ns = M:=by
  refine Pend.dns hM ?_
  have:=(Pend.zero hM).ups (ns:=ns)
  simpa using this
theorem GoodB.up {M : Bag} (h : GoodB M) (a : List UInt8) : GoodB (upB M a):=by
  obtain ⟨Z,e,h2,h3,_⟩:=((Pend.zero h).up (a:=a) (d:=fun b=>if b = a then 1 else 0) (by simp) (fun b hb=>by simp [hb])).ex
  rw [e]
  refine ⟨by rw [zJT];exact h2,fun p hp=>?_⟩
  obtain ⟨q,hq,rfl⟩:=List.mem_map.1 hp
  rcases List.mem_append.1 hq with hq | hq
  · have:=h.pos q hq;simp only;omega
  · have:=(h3 q hq).2;simp only;omega
theorem GoodB.ups {M : Bag} (h : GoodB M) : ∀ (ns : List (List UInt8)),GoodB (upsB M ns):=fun ns=>by
  induction ns generalizing M with
  | nil=>exact h
  | cons n ns ih=>exact ih (h.up n)
theorem GoodB.nil : GoodB []:=⟨List.nodup_nil,fun p hp=>by (cases hp)⟩
theorem zPc {S : Bag} {ns : List (List UInt8)} {i : Nat} {v : List UInt8} (h : ns[i]? = some v) : upsB S (ns.take (i + 1)) = upB (upsB S (ns.take i)) v:=by
  unfold upsB
  rw [List.take_add_one,h,List.foldl_append];rfl
theorem zQ5 {S : Bag} {ns : List (List UInt8)} {i : Nat} {v : List UInt8} (h : ns[i]? = some v) : dnsB S (ns.take (i + 1)) = dnB (dnsB S (ns.take i)) v:=by
  unfold dnsB
  rw [List.take_add_one,h,List.foldl_append];rfl
theorem zMk {a b : List UInt8} {v : Nat} : ∀ {S : Bag},lkB (putB S a v) b = if b = a then v else lkB S b
  | []=>by
    rw [putB,lkB,lkB]
    by_cases e : b = a
    · rw [if_pos e,if_pos e.symm]
    · rw [if_neg e,if_neg fun h=>e h.symm,lkB]
  | (k,u) :: r=>by
    rw [putB]
    by_cases e : k = a
    · rw [if_pos e,lkB,lkB]
      by_cases e2 : k = b
      · rw [if_pos e2,if_pos (e2 ▸ e)]
      · rw [if_neg e2,if_neg (fun h=>e2 (e.trans h.symm)),if_neg e2]
    · rw [if_neg e,lkB,lkB]
      by_cases e2 : k = b
      · rw [if_pos e2,if_neg (fun h=>e (e2.trans h)),if_pos e2]
      · rw [if_neg e2,if_neg e2,zMk]
theorem zE9 {b : List UInt8} : ∀ {ns : List (List UInt8)} {S : Bag},lkB (upsB S ns) b = lkB S b + ns.count b
  | [],S=>by simp [upsB]
  | n :: ns,S=>by
    show lkB (upsB (upB S n) ns) b = _
    rw [zE9,upB,zMk,List.count_cons]
    by_cases e : b = n
    · subst e;simp;omega
    · have : ¬ n = b:=fun h=>e h.symm
      simp [e,this]
theorem zQL {a : List UInt8} {B : Bag} : ∀ {A : Bag},a ∈ zDE A → lkB (A ++ B) a = lkB A a
  | (k,v) :: r,h=>by
    rw [List.cons_append,lkB,lkB]
    by_cases e : k = a
    · rw [if_pos e,if_pos e]
    · rw [if_neg e,if_neg e,zQL]
      rcases List.mem_cons.1 h with h | h
      · exact absurd h.symm e
      · exact h
theorem Pend.lk {M S : Bag} {c : List UInt8 → Nat} {a : List UInt8} (h : Pend M c S) (hc : 0 < c a) : lkB S a = lkB M a + c a:=by
  obtain ⟨Z,rfl,h2,h3,h4⟩:=h.ex
  have hm:=h4 a hc
  rw [zHv hm]
  by_cases hM : a ∈ zDE M
  · rw [zQL hM]
  · have h5:=zMl hm
    rcases List.mem_append.1 h5 with h6 | h6
    · exact absurd (List.mem_map_of_mem (f:=Prod.fst) h6) hM
    · have h7 : lkB (M ++ Z) a = 0:=(h3 _ h6).1
      rw [zKE hM,h7]
theorem Pend.dnsd {M : Bag} (hM : GoodB M) : ∀ {ns ms : List (List UInt8)} {S : Bag},Pend M (fun a=>(ns ++ ms).count a) S → Pend M (fun a=>ms.count a) (dnsB S ns)
  | [],ms,S,h=>h
  | n :: ns,ms,S,h=>by
    have h1 : Pend M (fun a=>(ns ++ ms).count a) (dnB S n):=h.dn hM (by simp) fun b hb=>by
      have : ¬ n = b:=fun e=>hb e.symm
      simp [this]
    exact Pend.dnsd hM (ns:=ns) h1
theorem zSa {M : Bag} (hM : GoodB M) {ns : List (List UInt8)} {i : Nat} {v : List UInt8} (h : ns[i]? = some v) : 1 ≤ lkB (dnsB (upsB M ns) (ns.take i)) v ∧ lkB (dnsB (upsB M ns) (ns.take i)) v ≤ lkB M v + ns.length:=by
  have h1 : Pend M (fun a=>(ns.take i ++ ns.drop i).count a) (upsB M ns):=by
    have:=(Pend.zero hM).ups (ns:=ns)
    simpa using this
  have h2:=Pend.dnsd hM h1
  have hp : 0 < (ns.drop i).count v:=by
    refine List.count_pos_iff.2 ?_
    exact List.mem_of_getElem? (i:=0) (by rw [List.getElem?_drop];exact h)
  have h3:=h2.lk hp
  have h4 : (ns.drop i).count v ≤ ns.length:=Nat.le_trans List.count_le_length (by rw [List.length_drop];omega)
  omega
def mvB (S : Bag) : List (List UInt8 × D):=S.map fun p=>(p.1,i64 (p.2 : Int))
theorem zQK (a : List UInt8) : ∀ S : Bag,(zCW (mvB S) a).getD (.val (.int .i64 0)) = i64 (lkB S a : Int)
  | []=>rfl
  | (k,v) :: r=>by
    show (zCW ((k,i64 (v : Int)) :: mvB r) a).getD _ = _
    unfold zCW lkB
    split
    · rfl
    · exact zQK a r
theorem zP7 (a : List UInt8) (v : Nat) : ∀ S : Bag,putK (mvB S) a (i64 (v : Int)) = mvB (putB S a v)
  | []=>rfl
  | (k,u) :: r=>by
    show putK ((k,i64 (u : Int)) :: mvB r) a _ = _
    unfold putK putB
    split
    · rfl
    · show _ :: _ = _ :: _
      congr 1;exact zP7 a v r
theorem zTt (a : List UInt8) : ∀ S : Bag,delK (mvB S) a = mvB (delB S a)
  | []=>rfl
  | (k,u) :: r=>by
    show delK ((k,i64 (u : Int)) :: mvB r) a = _
    unfold delK delB
    split
    · rfl
    · show _ :: _ = _ :: _
      congr 1;exact zTt a r
def bagK (k : Int) (tx : List UInt8) (pv : List (List UInt8)) (i : Nat) (S : Bag) : Bag :=
  if k = 5 ∨ k = 8 ∨ ((k = 7 ∨ k = 12) ∧ i = 1) then upsB S [tx] else if k = 10 ∧ 0 < i then upsB S pv else S
mutual
def Tr.free : Tr → Bag → List (List UInt8) → List (List UInt8)
  | .mk x ks,S,F=>if x.kind = 3 then (if lkB S x.text = 0 ∧ x.text ∉ F then F ++ [x.text] else F) else zCX x.kind x.text S [] ks 0 F
def zCX (k : Int) (tx : List UInt8) (S : Bag) : List (List UInt8) → List Tr → Nat → List (List UInt8) → List (List UInt8)
  | _,[],_,F=>F
  | pv,t :: r,i,F=>if k = 10 ∧ i % 2 = 1 then zCX k tx S (zBJ t.fl) r (i + 1) F else zCX k tx S pv r (i + 1) (t.free (bagK k tx pv i S) F)
end
end Go.Proofs.YtblomnkamngnbaaGreatDoor
namespace Go.Proofs.YtblomnkamngnbaaGreatDoor
def vN (n : Int) : Nd:=⟨31,[],n,0⟩
def sub1 (σ : Int → List Nd) (n : Nd) : List Nd:=if n.kind = 31 then σ n.num else [n]
def sub (σ : Int → List Nd) (L : List Nd) : List Nd:=L.flatMap (sub1 σ)
def Vin (x : Int) (L : List Nd) : Prop:=∃ n ∈ L,n.kind = 31 ∧ n.num = x
def Lf (L : List Nd) : Prop:=∀ n ∈ L,n.kind = 31 → n = vN n.num ∧ 0 ≤ n.num ∧ n.num ≤ 1048576
def Whl (L : List Nd) : Prop:=cns L 1 = some L.length
structure Ty (L : List Nd) : Prop where
  whl : Whl L
  lf : Lf L
  rt : ∀ n ∈ L,zCg n = true
theorem zJx (σ : Int → List Nd) : sub σ [] = []:=rfl
theorem zCA (σ : Int → List Nd) (x : Nd) (r : List Nd) : sub σ (x :: r) = sub1 σ x ++ sub σ r:=by simp [sub]
theorem zHJ (σ : Int → List Nd) (a b : List Nd) : sub σ (a ++ b) = sub σ a ++ sub σ b:=by simp [sub]
theorem zNS (σ : Int → List Nd) (KK : List (List Nd)) : sub σ KK.flatten = (KK.map (sub σ)).flatten:=by
  induction KK with
  | nil=>rfl
  | cons K KK ih=>rw [List.flatten_cons,zHJ,ih];rfl
theorem zDW {σ : Int → List Nd} {h : Nd} (hh : h.kind ≠ 31) (r : List Nd) : sub σ (h :: r) = h :: sub σ r:=by
  rw [zCA,sub1,if_neg hh];rfl
theorem zCd (σ : Int → List Nd) (x : Int) : sub σ [vN x] = σ x:=by
  rw [zCA,zJx,List.append_nil];rfl
theorem zGc {σ τ : Int → List Nd} {L : List Nd} (h : ∀ x,Vin x L → σ x = τ x) : sub σ L = sub τ L:=by
  induction L with
  | nil=>rfl
  | cons n r ih =>
    rw [zCA,zCA,ih fun x ⟨m,hm,e⟩=>h x ⟨m,List.mem_cons_of_mem _ hm,e⟩]
    unfold sub1
    split
    · rw [h n.num ⟨n,List.mem_cons_self, ‹_›,rfl⟩]
    · rfl
theorem zHI (σ τ : Int → List Nd) (L : List Nd) : sub σ (sub τ L) = sub (fun x=>sub σ (τ x)) L:=by
  induction L with
  | nil=>rfl
  | cons n r ih =>
    rw [zCA,zHJ,zCA,ih]
    congr 1
    unfold sub1
    split
    · rfl
    · rw [zCA,zJx,List.append_nil,sub1,if_neg ‹_›]
theorem zEe {x : Int} : ¬ Vin x []:=fun ⟨_,h,_⟩=>by cases h
theorem zBL {x : Int} {n : Nd} {r : List Nd} : Vin x (n :: r) ↔ (n.kind = 31 ∧ n.num = x) ∨ Vin x r:=by
  unfold Vin;simp
theorem zEF {x : Int} {a b : List Nd} : Vin x (a ++ b) ↔ Vin x a ∨ Vin x b:=by
  unfold Vin
  constructor
  · rintro ⟨n,hn,e⟩
    rcases List.mem_append.1 hn with hn | hn
    · exact .inl ⟨n,hn,e⟩
    · exact .inr ⟨n,hn,e⟩
  · rintro (⟨n,hn,e⟩ | ⟨n,hn,e⟩)
    · exact ⟨n,List.mem_append_left _ hn,e⟩
    · exact ⟨n,List.mem_append_right _ hn,e⟩
theorem zC5 {x y : Int} : Vin x [vN y] ↔ x = y:=by rw [zBL];simp [vN,zEe];exact eq_comm
theorem zGW {x : Int} {σ : Int → List Nd} {L : List Nd} : Vin x (sub σ L) ↔ ∃ y,Vin y L ∧ Vin x (σ y):=by
  induction L with
  | nil=>simp [zJx,zEe]
  | cons n r ih =>
    rw [zCA,zEF,ih]
    unfold sub1
    split
    · rename_i hk
      constructor
      · rintro (h | ⟨y,hy,h⟩)
        · exact ⟨n.num,zBL.2 (.inl ⟨hk,rfl⟩),h⟩
        · exact ⟨y,zBL.2 (.inr hy),h⟩
      · rintro ⟨y,hy,h⟩
        rcases zBL.1 hy with ⟨_,rfl⟩ | hy
        · exact .inl h
        · exact .inr ⟨y,hy,h⟩
    · rename_i hk
      constructor
      · rintro (h | ⟨y,hy,h⟩)
        · rcases zBL.1 h with ⟨h,_⟩ | h
          · exact absurd h hk
          · exact absurd h zEe
        · exact ⟨y,zBL.2 (.inr hy),h⟩
      · rintro ⟨y,hy,h⟩
        rcases zBL.1 hy with ⟨h0,_⟩ | hy
        · exact absurd h0 hk
        · exact .inr ⟨y,hy,h⟩
theorem zTX {L : List Nd} {σ : Int → List Nd} (hl : Lf L) (h : ∀ x,Vin x L → σ x = [vN x]) : sub σ L = L:=by
  induction L with
  | nil=>rfl
  | cons n r ih =>
    rw [zCA,ih (fun m hm=>hl m (List.mem_cons_of_mem _ hm)) (fun x hx=>h x (zBL.2 (.inr hx)))]
    unfold sub1
    split
    · rename_i hk
      rw [h n.num (zBL.2 (.inl ⟨hk,rfl⟩)), ← (hl n List.mem_cons_self hk).1];rfl
    · rfl
theorem zPj {σ : Int → List Nd} {x : Int} : ∀ {L : List Nd},Vin x L → (σ x).length ≤ (sub σ L).length
  | [],h=>absurd h zEe
  | n :: r,h=>by
    rw [zCA,List.length_append]
    rcases zBL.1 h with ⟨h1,h2⟩ | h
    · rw [sub1,if_pos h1,h2];omega
    · have:=zPj (σ:=σ) h;omega
theorem Whl.pos {L : List Nd} (h : Whl L) : 0 < L.length:=by have:=zG4 h;omega
theorem zKh {σ : Int → List Nd} : ∀ {L : List Nd} {o : Nat},Lf L → (∀ x,Vin x L → Whl (σ x)) → cns L o = some L.length → cns (sub σ L) o = some (sub σ L).length
  | [],0,_,_,_=>rfl
  | [],o + 1,_,_,h=>by cases h
  | x :: r,0,_,_,h=>by rw [zD4] at h;injection h with h;simp at h
  | x :: r,o + 1,hl,hw,h=>by
    rw [zCa] at h
    split at h
    · cases h
    · rename_i h0
      cases hc : cns r (o + x.kids.toNat) with
      | none=>rw [hc] at h;cases h
      | some j =>
        rw [hc] at h;simp only [Option.map_some,List.length_cons,Option.some.injEq,Nat.add_right_cancel_iff] at h;subst h
        have ih:=zKh (σ:=σ) (fun m hm=>hl m (List.mem_cons_of_mem _ hm)) (fun y hy=>hw y (zBL.2 (.inr hy))) hc
        rw [zCA]
        by_cases hk : x.kind = 31
        · have e:=(hl x List.mem_cons_self hk).1
          have e2 : x.kids = 0:=by rw [e];rfl
          rw [e2,show o + (0 : Int).toNat = o from rfl] at ih
          rw [sub1,if_pos hk,Nat.add_comm o 1,zFl,zCN _ (hw x.num (zBL.2 (.inl ⟨hk,rfl⟩)))]
          simp only [Option.bind_some,List.drop_left,ih,Option.map_some,List.length_append,Option.some.injEq];omega
        · rw [sub1,if_neg hk,List.singleton_append,zCa,if_neg h0,ih];rfl
theorem Ty.sub {σ : Int → List Nd} {L : List Nd} (h : Ty L) (hs : ∀ x,Vin x L → Ty (σ x)) : Ty (sub σ L):=by
  refine ⟨zKh h.lf (fun x hx=>(hs x hx).whl) h.whl,?_,?_⟩
  · intro n hn hk
    obtain ⟨m,hm,hn⟩:=List.mem_flatMap.1 hn
    unfold sub1 at hn
    split at hn
    · exact (hs _ ⟨m,hm, ‹_›,rfl⟩).lf n hn hk
    · rw [List.mem_singleton] at hn;subst hn;exact absurd hk ‹_›
  · intro n hn
    obtain ⟨m,hm,hn⟩:=List.mem_flatMap.1 hn
    unfold sub1 at hn
    split at hn
    · exact (hs _ ⟨m,hm, ‹_›,rfl⟩).rt n hn
    · rw [List.mem_singleton] at hn;subst hn;exact h.rt n hm
theorem zP1 {x : Int} (h : 0 ≤ x ∧ x ≤ 1048576) : zCg (vN x) = true:=by
  rw [zCg,if_pos (show (vN x).kind = 31 from rfl)];exact decide_eq_true ⟨rfl,rfl,h.1,h.2⟩
theorem zOi {n : Nd} (h : zCg n = true) (hk : n.kind = 31) : n = vN n.num ∧ 0 ≤ n.num ∧ n.num ≤ 1048576:=by
  rw [zCg,if_pos hk] at h
  obtain ⟨h1,h2,h3,h4⟩:=of_decide_eq_true h
  refine ⟨?_,h3,h4⟩
  cases n;simp only at hk h1 h2;subst hk;subst h1;subst h2;rfl
theorem zI8 {x : Int} (h : 0 ≤ x ∧ x ≤ 1048576) : Ty [vN x]:=⟨rfl,fun n hn _=>by rw [List.mem_singleton] at hn;subst hn;exact ⟨rfl,h⟩,fun n hn=>by rw [List.mem_singleton] at hn;subst hn;exact zP1 h⟩
theorem zLu : ∀ {KK MM : List (List Nd)},KK.length = MM.length → (∀ K ∈ KK,Whl K) → (∀ K ∈ MM,Whl K) → KK.flatten = MM.flatten → KK = MM
  | [],[],_,_,_,_=>rfl
  | [],_ :: _,h,_,_,_=>by simp at h
  | _ :: _,[],h,_,_,_=>by simp at h
  | K :: KK,M :: MM,hl,hk,hm,h=>by
    simp only [List.length_cons,Nat.add_right_cancel_iff] at hl
    rw [List.flatten_cons,List.flatten_cons] at h
    have h1:=zCN KK.flatten (hk K List.mem_cons_self)
    have h2:=zCN MM.flatten (hm M List.mem_cons_self)
    rw [h,h2] at h1;injection h1 with h1
    have e:=List.append_inj h h1.symm
    rw [e.1,zLu hl (fun a ha=>hk a (List.mem_cons_of_mem _ ha)) (fun a ha=>hm a (List.mem_cons_of_mem _ ha)) e.2]
theorem Ty.cases {L : List Nd} (h : Ty L) : (∃ x,L = [vN x] ∧ 0 ≤ x ∧ x ≤ 1048576) ∨ ∃ (n : Nd) (KK : List (List Nd)),L = n :: KK.flatten ∧ n.kind ≠ 31 ∧ n.kids = KK.length ∧ (∀ K ∈ KK,Ty K) ∧ Node L 0 n KK []:=by
  obtain ⟨n,KK,R,hN,hl⟩:=zQF (L:=L) (n:=0) h.whl
  have hd:=hN.drop
  rw [List.drop_zero] at hd
  have hR : R = []:=by
    have:=congrArg List.length hd
    simp only [List.length_cons,List.length_append] at this
    exact List.eq_nil_of_length_eq_zero (by omega)
  subst hR
  rw [List.append_nil] at hd
  by_cases hk : n.kind = 31
  · obtain ⟨e,hr⟩:=h.lf n (by rw [hd];exact List.mem_cons_self) hk
    have e2 : n.kids = 0:=by rw [e];rfl
    have hKK : KK = []:=List.eq_nil_of_length_eq_zero (by have:=hN.kids;omega)
    subst hKK
    exact .inl ⟨n.num,by rw [hd, ← e];rfl,hr⟩
  · refine .inr ⟨n,KK,hd,hk,hN.kids,fun K hK=>⟨hN.whole K hK,fun m hm=>h.lf m ?_,fun m hm=>h.rt m ?_⟩,hN⟩ <;>
    · rw [hd];exact List.mem_cons_of_mem _ (List.mem_flatten.2 ⟨K,hK,hm⟩)
theorem zM0 {σ : Int → List Nd} (hW : ∀ x,Whl (σ x)) {n m : Nd} {KK MM : List (List Nd)} (hn : n.kind ≠ 31) (hm : m.kind ≠ 31) (hnk : n.kids = KK.length) (hmk : m.kids = MM.length) (hK : ∀ K ∈ KK,Ty K) (hM : ∀ K ∈ MM,Ty K) :
    sub σ (n :: KK.flatten) = sub σ (m :: MM.flatten) ↔ n = m ∧ KK.map (sub σ) = MM.map (sub σ):=by
  have hw : ∀ {KK : List (List Nd)},(∀ K ∈ KK,Ty K) → ∀ K ∈ KK.map (sub σ),Whl K:=fun hK K h=>by
    obtain ⟨K',hK',rfl⟩:=List.mem_map.1 h
    exact zKh (hK K' hK').lf (fun x _=>hW x) (hK K' hK').whl
  rw [zDW hn,zDW hm,zNS,zNS]
  constructor
  · intro h
    injection h with h1 h2
    refine ⟨h1,zLu ?_ (hw hK) (hw hM) h2⟩
    rw [List.length_map,List.length_map];subst h1;omega
  · rintro ⟨rfl,h⟩;rw [h]
end Go.Proofs.YtblomnkamngnbaaGreatDoor
namespace Go.Proofs.YtblomnkamngnbaaGreatDoor
open Go.Sx
attribute [local irreducible] zAO Program.underlying Ylds zA3 alex zBY zBN awp zAm zBT zBe zAx zBA zBP zA2 zBR zBX zBa zBq
theorem zUN {s : List UInt8} (h : s ≠ []) : (0 : Int) < (s.length : Int):=by
  cases s with
  | nil=>exact absurd rfl h
  | cons=>simp
theorem zK2 {p : UInt8 → Prop} (h : ∀ n : Fin 256,p (UInt8.ofNat n.1)) (c : UInt8) : p c:=by
  have:=h ⟨c.toNat,c.toNat_lt⟩
  simpa using this
theorem zWb : ∀ c,isK c = 1 ↔ zDt c = true:=zK2 (by decide +kernel)
theorem zWa : ∀ c,isK c = 2 ↔ zDY c = true:=zK2 (by decide +kernel)
theorem zWh : ∀ c,btw 1 4 c = zFA c:=zK2 (by decide +kernel)
theorem zWg : ∀ c,btw 5 5 c = zDT c:=zK2 (by decide +kernel)
theorem zNU (p : UInt8 → Bool) (s : List UInt8) : zJA p s = s.length ↔ s.all p = true:=by
  induction s with
  | nil=>simp [zJA]
  | cons c s ih =>
    rw [zJA,List.all_cons]
    cases p c with
    | false=>simp
    | true=>simp [ih]
theorem zT9 (s : List UInt8) : ((0 + zJA (btw 1 4) (s.drop 0) : Nat) : Int) = (s.length : Int) ↔ s.all zFA = true:=by
  rw [← zNU,show btw 1 4 = zFA from funext zWh,List.drop_zero,Nat.zero_add];omega
theorem zT8 (s : List UInt8) : ((0 + zJA (btw 5 5) (s.drop 0) : Nat) : Int) = (s.length : Int) ↔ s.all zDT = true:=by
  rw [← zNU,show btw 5 5 = zDT from funext zWg,List.drop_zero,Nat.zero_add];omega
set_option maxHeartbeats 4000000 in
theorem zJK (t : Tk) (hs : t.text.length ≤ 9223372036854775807) : zAm Tryz.prog 42 [t.av] (bl (zEI t)):=by
  refine zAd Tryz.func42 rfl Tryz.ntmps42 Tryz.results42 rfl ?_
  intro wb St0
  repeat' first | apply en_n|apply zAH|apply zAC|apply zAF|apply w0|(apply k1u (hd:=rfl);exact rfl;exact rfl)|(apply zC2;exact rfl;with_reducible exact ustr)|exact zHa rfl rfl|exact zJn rfl rfl|(apply zAX (hb:=zUU) (hc:=zUK t.text))|(apply zAX (hb:=zSo) (hc:=zSN t.num))|(apply zAX (hb:=zVc) (hc:=zVW (t.text.getD 0 0)))|(refine zAX zNx (zKz t.text 0 1 4 hs (Nat.zero_le _)) (zAZ rfl (zAZ rfl (zAZ rfl (zAZ rfl zAG)))))|(refine zAX zNx (zKz t.text 0 5 5 hs (Nat.zero_le _)) (zAZ rfl (zAZ rfl (zAZ rfl (zAZ rfl zAG)))))|(apply zKq (i:=0);exact rfl;exact rfl;with_reducible exact ustr;exact ⟨by omega,zUN (by assumption)⟩)|(apply aBox (hd:=rfl) (hro:=rfl);exact rfl;exact rfl)|apply ay (hd:=rfl)|exact zAE rfl|exact zAD rfl|exact zDG rfl rfl|exact zI7 rfl rfl|exact zD7 rfl rfl|exact zCS rfl|exact zAq rfl rfl|exact zAo rfl rfl|(apply zAS;exact rfl;(with_reducible first|exact fo_0|exact fo_1|exact fo_2|exact fo_3))|(apply zAV;exact rfl;(with_reducible first|exact zK4|exact zTU|exact zPi|exact zTV);exact rfl;exact rfl)|(apply w1;exact rfl;exact rfl)|(apply k1 (hd:=rfl);exact rfl;exact rfl)|(apply gD;exact rfl;exact rfl;(intro hb);rotate_left;(intro hb);rotate_right)|(apply zA1;exact rfl;(intro hb);rotate_left;(intro hb);rotate_right)|apply zAJ|apply zAT|apply zAN|refine zBQ (by kernel_rfl) (by kernel_rfl) ?_|apply en_r|apply eb_n|apply eb_r|apply zAP|(apply res1;exact rfl)|exact zAG|refine zAZ rfl ?_
  all_goals refine zD6 ?_
  all_goals try simp only [zT9,zT8] at *
  all_goals try (have hp : (t.pos < 0) = False:=eq_false (by assumption);simp only [zEI,hp,if_false])
  all_goals try simp_all [zEI,zGn,allF,zWb,zWa]
  all_goals first | omega | (obtain ⟨x,hx,hn⟩:=hb;intro h;rw [h x hx] at hn;cases hn)
end Go.Proofs.YtblomnkamngnbaaGreatDoor
