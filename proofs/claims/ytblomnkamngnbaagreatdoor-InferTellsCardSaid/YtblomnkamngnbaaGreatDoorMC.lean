/- Texts of this claim, merged: NodF, NodA, NodB, NodD, NodL, Shelf, WrdF, LexP, LexF, LexA, LexB, LexC, LexD, LexE, WrdA, WrdC, WrdD, WrdE, WrdG, LexG, NodC, NodG, TypF, TypA, TypB, TypG, TypC, TypD, TypE, TypH, TypI, NodP, NodT, SynF, InfF, InfZL, InfZA, InfG. -/
import Derived.Test.YtblomnkamngnbaaGreatDoorProg
import Derived.Laws.StructEq
import Derived.ChangeKeysEq
import Derived.Test.YtblomnkamngnbaaGreatDoorRows
import Derived.ProofKit
import Derived.Deep.Slices
import Derived.Deep.Fields
import Derived.ChangeSame
import Derived.Shelf.Small.Bits
import Derived.Shelf.Small.Strs
import Derived.Shelf.Strconv.Itoa0
import Derived.Shelf.Strconv.Itoa1
import Derived.Shelf.LaysM
import Derived.Shelf.Strconv.Itoa2
import Derived.Shelf.Strconv.Itoa3
import Derived.Shelf.Strconv.Itoa4
import Derived.Shelf.Strings.Search1
import Derived.Shelf.Sort.Plain
import Derived.Shelf.Strings.Fields
import Derived.Shelf.Strings.SplitShaped
import Derived.Shelf.Unicode.Latin
import Derived.Shelf.Unicode.Is16White
import Derived.Shelf.Unicode.IsSpaceAny
import Derived.Shelf.Unicode.Is16Any
import Derived.Shelf.Unicode.Is32Any
import Derived.Shelf.Unicode.ExclAny
import Derived.Shelf.Slices.CompactS
import Derived.Shelf.Slices.Cells
import Derived.Lib.ItoaLen
import Derived.Lib.IndexAny
import Derived.Lib.IndexLaws
import Derived.Lib.CutLaws
import Derived.OpenShut
import Derived.LaidMore
import Derived.Lay
import Derived.Stop.Joined
import Derived.Stop.LaidErr
import Derived.Shelf.Vars
import Derived.Lib.LaidTab
import Derived.Test.YtblomnkamngnbaaGreatDoorMB
namespace Go.Proofs.YtblomnkamngnbaaGreatDoor
open Go.Sx
theorem zAW : zBG Tryz.prog 23 = some 4:=by kernel_rfl
theorem zA7 : zBG Tryz.prog 52 = some 1:=by kernel_rfl
theorem zCP : zBG Tryz.prog 47 = some 1:=by kernel_rfl
theorem zA0 : (zB3 Tryz.prog 23).isSome = true:=by kernel_rfl
theorem zBt : (zB3 Tryz.prog 52).isSome = true:=by kernel_rfl
theorem zGZ : (zB3 Tryz.prog 47).isSome = true:=by kernel_rfl
theorem zBb : zB3 Tryz.prog 23 = some 40:=by kernel_rfl
theorem zCw : zB3 Tryz.prog 52 = some 3:=by kernel_rfl
theorem zDu : zB3 Tryz.prog 47 = some 23:=by kernel_rfl
theorem fn_0 : zBM Tryz.prog 40 0 = some 0:=by kernel_rfl
theorem fn_1 : zBM Tryz.prog 40 1 = some 1:=by kernel_rfl
theorem fn_2 : zBM Tryz.prog 40 2 = some 2:=by kernel_rfl
theorem fn_3 : zBM Tryz.prog 40 3 = some 3:=by kernel_rfl
theorem zAs : zBK Tryz.prog 3 = some (false,1):=by kernel_rfl
theorem zAe : zBK Tryz.prog 38 = some (false,1):=by kernel_rfl
theorem zBI : zBK Tryz.prog 2 = some (false,1):=by kernel_rfl
theorem zAv : zBK Tryz.prog 9 = some (false,1):=by kernel_rfl
theorem zF9 : zBK Tryz.prog 4 = some (false,1):=by kernel_rfl
theorem zAn : zBK Tryz.prog 23 = some (false,1):=by kernel_rfl
theorem zJW : zBK Tryz.prog 52 = some (false,1):=by kernel_rfl
theorem zAY : zBK Tryz.prog 40 = some (true,4):=by kernel_rfl
theorem zEL : zDG Tryz.prog 40 = some 4:=by kernel_rfl
theorem zIl : zDG Tryz.prog 3 = some 1:=by kernel_rfl
theorem zMN : zDG Tryz.prog 23 = some 1:=by kernel_rfl
theorem zDL : zDA Tryz.prog 23 = some 40:=by kernel_rfl
theorem zG4 : zDA Tryz.prog 52 = some 8:=by kernel_rfl
theorem zLQ : zDA Tryz.prog 47 = some 24:=by kernel_rfl
theorem zDM : (zBm Tryz.prog 40).isSome = true:=by kernel_rfl
theorem zIk : (zBm Tryz.prog 3).isSome = true:=by kernel_rfl
theorem zHS : (zBm Tryz.prog 23).isSome = true:=by kernel_rfl
theorem zAp : zBm Tryz.prog 40 = some [.int .i64 0,.string ByteArray.empty,.int .i64 0,.int .i64 0]:=by kernel_rfl
theorem zSN : zBm Tryz.prog 3 = some [.int .i64 0]:=by kernel_rfl
theorem zSO : zQY Tryz.prog 40 = some (.agg [.val (.int .i64 0),.val (.string ByteArray.empty),.val (.int .i64 0),.val (.int .i64 0)]):=by kernel_rfl
theorem zFl : zAT Tryz.prog 92 = true:=by kernel_rfl
theorem zFd : zAT Tryz.prog 49 = true:=by kernel_rfl
theorem zCV : zAT Tryz.prog 54 = true:=by kernel_rfl
theorem zTq : zAT Tryz.prog 99 = true:=by kernel_rfl
theorem zPN : zAT Tryz.prog 16 = true:=by kernel_rfl
theorem zFF : zAT Tryz.prog 118 = true:=by kernel_rfl
theorem zGS : zAT Tryz.prog 72 = true:=by kernel_rfl
theorem zEr : zAT Tryz.prog 27 = true:=by kernel_rfl
theorem zEZ : zAT Tryz.prog 23 = true:=by kernel_rfl
theorem zPK : zAT Tryz.prog 43 = true:=by kernel_rfl
theorem zGT : zAT Tryz.prog 24 = true:=by kernel_rfl
theorem zSo : zAT Tryz.prog 17 = true:=by kernel_rfl
theorem zES : Tryz.prog.underlying 3 = some (.int .i64):=by kernel_rfl
structure Nd where
  kind : Int
  text : List UInt8
  num : Int
  kids : Int
deriving DecidableEq
def Nd.av (n : Nd) : D:=.agg [.val (.int .i64 n.kind),.val (.string ⟨n.text.toArray⟩),.val (.int .i64 n.num),.val (.int .i64 n.kids)]
def zAc (L : List Nd) : D:=.slice (L.map Nd.av)
def ival (n : Int) : D:=.val (.int .i64 n)
def zBj (L : List Int) : D:=.slice (L.map ival)
def zFk (LL : List (List Nd)) : D:=.slice (LL.map zAc)
def zEA (n : Nat) : List Nd → Int → Int → Int
  | [],_,_=>-1
  | x :: r,o,a=>if x.kids < 0 ∨ x.kids > n then -1 else if o + (x.kids - 1) > 0 then zEA n r (o + (x.kids - 1)) (a + 1) else a + 1
def endF (L : List Nd) (a : Int) : Int:=if a < 0 then -1 else zEA L.length (L.drop a.toNat) 1 a
theorem zEg {L : List Nd} {k : Nat} (h : L.length ≤ k) (n : Nat) (o a : Int) : zEA n (L.drop k) o a = -1:=by
  rw [List.drop_of_length_le h];rfl
theorem zDS {L : List Nd} {k : Nat} {x : Nd} (h : L[k]? = some x) (n : Nat) (o a : Int) : zEA n (L.drop k) o a = if x.kids < 0 ∨ x.kids > n then -1 else if o + (x.kids - 1) > 0 then zEA n (L.drop (k + 1)) (o + (x.kids - 1)) (a + 1) else a + 1:=by
  obtain ⟨hk,rfl⟩:=List.getElem?_eq_some_iff.1 h
  rw [List.drop_eq_getElem_cons hk];rfl
end Go.Proofs.YtblomnkamngnbaaGreatDoor
namespace Go.Proofs.YtblomnkamngnbaaGreatDoor
open Go.Sx
attribute [local irreducible] Ylds zBA alex zBc zBO awp zAj zBX RCall zA2 zBH zBQ zA8 zBT zBZ zBd
theorem zFq (L : List Nd) (at_ : Int) (hL : L.length ≤ 2000000) : zAj Tryz.prog 92 [zAc L,i64 at_] (i64 (endF L at_)):=by
  refine zAd Tryz.func92 rfl Tryz.ntmps92 Tryz.results92 rfl ?_
  intro wb St0
  repeat' first | apply en_n|apply zAH|apply zAB|apply zAF|apply w0|apply ay (hd:=rfl)|exact zAC rfl
  refine zMB (α:=Int × Nat) 0 rfl rfl (fun p=>zEA L.length (L.drop p.2) p.1 p.2 = endF L at_ ∧ 1 ≤ p.1 ∧ p.1 ≤ 1 + p.2 * 2000000) (fun p=>[(0,.d (zAc L)),(1,.d (i64 p.2)),(5,.d (i64 p.1))]) (fun _=>[]) (fun p=>L.length - p.2) ?_ ?_
  · skip
    repeat' first | apply en_n|apply zAH|apply zAB|apply zAF|apply w0|apply ay (hd:=rfl)|exact zAE rfl|exact zAC rfl|exact zCQ rfl rfl|(apply zAz;exact rfl;(intro hb);rotate_left;(intro hb);rotate_right)|apply zAP|apply zAM|apply en_r|apply ej_r|apply zAJ|exact res1 rfl
    · rw [endF,if_pos hb]
    · refine ⟨(1,at_.toNat),⟨?_,by omega,by simp only;omega⟩,zAO (zAA rfl (Le_d rfl ?_ (zAA rfl zAa))) zAN rfl rfl⟩
      · rw [endF,if_neg hb];simp only;rw [Int.toNat_of_nonneg (by omega)]
      · simp only;rw [Int.toNat_of_nonneg (by omega)]
  · rintro ⟨o,k⟩ ⟨h1,h2,h3⟩
    dsimp only at h1 h2 h3 ⊢
    repeat' first | apply en_n|apply zAH|apply zAB|apply zAF|apply w0|(apply aJ (hd:=rfl);(first|exact zAk rfl|exact Co_bb rfl rfl rfl|exact Co_nn rfl);exact rfl;(with_reducible exact zAW);assumption;omega;exact fun _=>rfl)|(apply aI (hd:=rfl);(first|exact zAk rfl|exact Co_bb rfl rfl rfl|exact Co_nn rfl);exact rfl;(with_reducible exact zAW);exact fun _=>rfl;rotate_left;intro v hv;rotate_right)|apply ay (hd:=rfl)|exact zAE rfl|exact zAC rfl|(apply zAy;exact rfl;(with_reducible exact fn_3))|(apply zAg;exact rfl;(with_reducible exact zAs))|(apply zAl;exact rfl;(with_reducible exact zA0))|exact zCQ rfl rfl|exact zEk rfl rfl|exact zEO rfl rfl|exact zBC rfl rfl|exact zIj rfl rfl|exact zAi rfl rfl|exact zAh rfl rfl|exact w1 rfl rfl|(apply k0 (hd:=rfl);exact rfl;exact rfl)|(apply gD;exact rfl;exact rfl;(intro hb);rotate_left;(intro hb);rotate_right)|(apply zAz;exact rfl;(intro hb);rotate_left;(intro hb);rotate_right)|exact zAK rfl|apply zAP|apply zAM|apply zRZ|apply en_r|apply en_g|apply ej_r|apply ej_g|apply zAJ|exact res1 rfl
    all_goals try omega
    · rw [← h1,zEg (by omega)]
    · rw [← h1,zDS (k:=k) hv,if_pos (by omega)]
    · rw [← h1,zDS (k:=k) hv,if_pos (by omega)]
    · rw [zDS (k:=k) hv,if_neg (by omega),if_pos (by omega)] at h1
      refine ⟨(o + (v.kids - 1),k + 1),⟨h1,by simp only;omega,by simp only;omega⟩,?_,zAO (zAA rfl (zAA rfl (zAA rfl zAa))) zAN rfl rfl⟩
      simp only;omega
    · rw [← h1,zDS (k:=k) hv,if_neg (by omega),if_neg (by omega)]
end Go.Proofs.YtblomnkamngnbaaGreatDoor
namespace Go.Proofs.YtblomnkamngnbaaGreatDoor
open Go.Sx
attribute [local irreducible] Ylds zBA alex zBc zBO awp zAj zBX RCall zA2 zBH zBQ zA8 zBT zBZ zBd
theorem zIH : zAT Tryz.prog 44 = true:=by kernel_rfl
def zB7 (L : List Nd) : Bool:=decide (L.length > 0) && decide (endF L 0 = L.length)
theorem zHj (L : List Nd) (hL : L.length ≤ 2000000) : zAj Tryz.prog 49 [zAc L] (bl (zB7 L)):=by
  refine zAd Tryz.func49 rfl Tryz.ntmps49 Tryz.results49 rfl ?_
  intro wb St0
  repeat' first | apply en_n|apply zAH|apply zAB|apply zAF|apply w0|(apply zAV (hb:=zFl) (hc:=zFq L _ hL))|apply ay (hd:=rfl)|exact zAE rfl|exact zAC rfl|(apply zAl;exact rfl;(with_reducible exact zA0))|exact zEk rfl rfl|exact zCz rfl rfl|exact zAi rfl rfl|exact zAh rfl rfl|exact w1 rfl rfl|(apply k1 (hd:=rfl);exact rfl;exact rfl)|(apply gD;exact rfl;exact rfl;(intro hb);rotate_left;(intro hb);rotate_right)|apply zAM|apply zAJ|exact res1 rfl|exact zAG|refine zAX rfl ?_
  · have h : 0 < L.length:=by omega
    simp [zB7,h]
  · have h : ¬ 0 < L.length:=by omega
    simp [zB7,h]
theorem zLG {n : Nat} : ∀ (r : List Nd) (o a : Int),0 ≤ a → zEA n r o a = -1 ∨ a < zEA n r o a ∧ zEA n r o a ≤ a + r.length
  | [],_,_,_=>.inl rfl
  | x :: r,o,a,ha=>by
    unfold zEA
    split
    · exact .inl rfl
    · split
      · rcases zLG r (o + (x.kids - 1)) (a + 1) (by omega) with h | h
        · exact .inl h
        · refine .inr ⟨by omega,?_⟩;simp only [List.length_cons];omega
      · refine .inr ⟨by omega,?_⟩;simp only [List.length_cons];omega
theorem zEv (L : List Nd) (a : Int) : endF L a = -1 ∨ (0 ≤ a ∧ a < endF L a ∧ endF L a ≤ L.length):=by
  unfold endF
  split
  · exact .inl rfl
  · rcases zLG (n:=L.length) (L.drop a.toNat) 1 a (by omega) with h | h
    · exact .inl h
    · refine .inr ⟨by omega,h.1,?_⟩
      have h2:=h.2
      rw [List.length_drop] at h2
      rcases Nat.lt_or_ge a.toNat L.length with h3 | h3
      · omega
      · have h4:=h.1
        rw [List.drop_of_length_le h3] at h4
        simp only [zEA] at h4;omega
theorem zPj (L : List Nd) : ∀ (m k : Nat) (p q : Int),L.length - k ≤ m → 1 ≤ p → 1 ≤ q → zEA L.length (L.drop k) (p + q) k = if zEA L.length (L.drop k) p k < 0 then -1 else zEA L.length (L.drop (zEA L.length (L.drop k) p k).toNat) q (zEA L.length (L.drop k) p k):=by
  intro m
  induction m with
  | zero =>
    intro k p q hm _ _
    rw [zEg (by omega),zEg (by omega)];rfl
  | succ m ih =>
    intro k p q hm hp hq
    rcases Nat.lt_or_ge k L.length with hk | hk
    · have hv : L[k]? = some L[k]:=List.getElem?_eq_getElem hk
      rw [zDS hv,zDS hv]
      by_cases hbad : L[k].kids < 0 ∨ L[k].kids > L.length
      · rw [if_pos hbad,if_pos hbad];rfl
      · rw [if_neg hbad,if_neg hbad]
        rw [if_pos (show p + q + (L[k].kids - 1) > 0 by omega)]
        by_cases h1 : p + (L[k].kids - 1) > 0
        · rw [if_pos h1]
          have:=ih (k + 1) (p + (L[k].kids - 1)) q (by omega) (by omega) hq
          rw [show p + q + (L[k].kids - 1) = p + (L[k].kids - 1) + q by omega]
          exact this
        · rw [if_neg h1,if_neg (by omega)]
          rw [show p + q + (L[k].kids - 1) = q by omega]
          rfl
    · rw [zEg hk,zEg hk];rfl
def seqE (L : List Nd) (a : Int) : Nat → Int
  | 0=>a
  | i + 1=>if seqE L a i < 0 then -1 else endF L (seqE L a i)
theorem zOc (L : List Nd) (k : Nat) : ∀ (i : Nat),seqE L k (i + 1) = zEA L.length (L.drop k) (i + 1) k
  | 0=>by
    have h0 : ¬ seqE L (k : Int) 0 < 0:=by simp only [seqE];omega
    have h1 : ¬ (k : Int) < 0:=by omega
    unfold seqE
    rw [if_neg h0]
    show endF L (k : Int) = _
    rw [endF,if_neg h1,Int.toNat_natCast];rfl
  | i + 1=>by
    have ih:=zOc L k i
    show (if seqE L k (i + 1) < 0 then _ else _) = _
    rw [ih,show ((i + 1 : Nat) : Int) + 1 = (i : Int) + 1 + 1 by omega,zPj L _ k ((i : Int) + 1) 1 (Nat.le_refl _) (by omega) (by omega)]
    split
    · rfl
    · rename_i h;rw [endF,if_neg h]
theorem zHe {L : List Nd} {k : Nat} {x : Nd} (h : L[k]? = some x) : endF L k = if x.kids < 0 ∨ x.kids > L.length then -1 else seqE L ((k : Int) + 1) x.kids.toNat:=by
  rw [endF,if_neg (by omega),Int.toNat_natCast,zDS h]
  split
  · rfl
  · rename_i hb
    by_cases h1 : 1 + (x.kids - 1) > 0
    · rw [if_pos h1]
      obtain ⟨i,hi⟩ : ∃ i : Nat,x.kids.toNat = i + 1:=⟨x.kids.toNat - 1,by omega⟩
      rw [hi]
      have:=zOc L (k + 1) i
      rw [show ((k + 1 : Nat) : Int) = (k : Int) + 1 by omega] at this
      rw [this]
      congr 1
      omega
    · rw [if_neg h1]
      have : x.kids.toNat = 0:=by omega
      rw [this];rfl
theorem zGC {L : List Nd} {a : Int} {i : Nat} (h : seqE L a i < 0) : ∀ j,i ≤ j → seqE L a j < 0:=by
  intro j hj
  induction j with
  | zero=>rw [show i = 0 by omega] at h;exact h
  | succ j ih =>
    rcases Nat.lt_or_ge j i with h1 | h1
    · rw [show j + 1 = i by omega];exact h
    · show (if seqE L a j < 0 then _ else _) < 0
      rw [if_pos (ih h1)];omega
theorem zDy {L : List Nd} {a : Int} {i : Nat} (h : 0 ≤ seqE L a i) : seqE L a (i + 1) = endF L (seqE L a i):=by
  show (if seqE L a i < 0 then _ else _) = _
  rw [if_neg (by omega)]
theorem zHt {L : List Nd} {a : Int} : ∀ {i : Nat},0 ≤ seqE L a i → a + i ≤ seqE L a i
  | 0,_=>by simp only [seqE];omega
  | i + 1,h=>by
    rcases Int.lt_or_le (seqE L a i) 0 with h1 | h1
    · have:=zGC h1 (i + 1) (by omega);omega
    · have:=zHt h1
      rw [zDy h1] at h ⊢
      rcases zEv L (seqE L a i) with h2 | h2 <;> omega
theorem zOb {L : List Nd} {a : Int} (ha : 0 ≤ a) : ∀ {i : Nat},seqE L a i < 0 → seqE L a i = -1
  | 0,h=>by change a < 0 at h;omega
  | i + 1,h=>by
    change (if seqE L a i < 0 then _ else _) < 0 at h
    show (if seqE L a i < 0 then _ else _) = _
    split
    · rfl
    · rename_i h1;rw [if_neg h1] at h;rcases zEv L (seqE L a i) with h2 | h2 <;> omega
theorem zHf {L : List Nd} {a : Int} (h : a < 0 ∨ (L.length : Int) ≤ a) : endF L a = -1:=by
  rcases zEv L a with h1 | h1 <;> omega
theorem zSc (L : List Nd) (hL : L.length ≤ 2000000) : ∀ (m : Nat) (at_ : Int),(L.length : Int) - at_ ≤ m → zAj Tryz.prog 44 [zAc L,i64 at_] (i64 (endF L at_)):=by
  intro m
  induction m with
  | zero =>
    intro at_ hm
    refine zAd Tryz.func44 rfl Tryz.ntmps44 Tryz.results44 rfl ?_
    intro wb St0
    repeat' first | apply en_n|apply zAH|apply zAB|apply zAF|apply w0|(apply aJ (hd:=rfl);(first|exact zAk rfl|exact Co_bb rfl rfl rfl|exact Co_nn rfl);exact rfl;(with_reducible exact zAW);assumption;omega;exact fun _=>rfl)|(apply aI (hd:=rfl);(first|exact zAk rfl|exact Co_bb rfl rfl rfl|exact Co_nn rfl);exact rfl;(with_reducible exact zAW);exact fun _=>rfl;rotate_left;intro v hv;rotate_right)|apply ay (hd:=rfl)|exact zAE rfl|exact zAC rfl|(apply zAy;exact rfl;(with_reducible exact fn_3))|(apply zAg;exact rfl;(with_reducible exact zAs))|(apply zAl;exact rfl;(with_reducible exact zA0))|exact zCQ rfl rfl|exact zEk rfl rfl|exact zEO rfl rfl|exact zBC rfl rfl|exact zAi rfl rfl|exact zAh rfl rfl|exact w1 rfl rfl|(apply k0 (hd:=rfl);exact rfl;exact rfl)|(apply gD;exact rfl;exact rfl;(intro hb);rotate_left;(intro hb);rotate_right)|(apply zAz;exact rfl;(intro hb);rotate_left;(intro hb);rotate_right)|exact zAK rfl|apply zAI|apply zAP|apply zAM|apply en_r|apply zAJ|exact res1 rfl
    all_goals try omega
    all_goals rw [zHf (by omega)]
  | succ m ih =>
    intro at_ hm
    refine zAd Tryz.func44 rfl Tryz.ntmps44 Tryz.results44 rfl ?_
    intro wb St0
    repeat' first | apply en_n|apply zAH|apply zAB|apply zAF|apply w0|(apply aJ (hd:=rfl);(first|exact zAk rfl|exact Co_bb rfl rfl rfl|exact Co_nn rfl);exact rfl;(with_reducible exact zAW);assumption;omega;exact fun _=>rfl)|(apply aI (hd:=rfl);(first|exact zAk rfl|exact Co_bb rfl rfl rfl|exact Co_nn rfl);exact rfl;(with_reducible exact zAW);exact fun _=>rfl;rotate_left;intro v hv;rotate_right)|apply ay (hd:=rfl)|exact zAE rfl|exact zAC rfl|(apply zAy;exact rfl;(with_reducible exact fn_3))|(apply zAg;exact rfl;(with_reducible exact zAs))|(apply zAl;exact rfl;(with_reducible exact zA0))|exact zCQ rfl rfl|exact zEk rfl rfl|exact zEO rfl rfl|exact zBC rfl rfl|exact zAi rfl rfl|exact zAh rfl rfl|exact w1 rfl rfl|(apply k0 (hd:=rfl);exact rfl;exact rfl)|(apply gD;exact rfl;exact rfl;(intro hb);rotate_left;(intro hb);rotate_right)|(apply zAz;exact rfl;(intro hb);rotate_left;(intro hb);rotate_right)|exact zAK rfl|apply zAI|apply zAP|apply zAM|apply en_r|apply zAJ|exact res1 rfl
    all_goals try omega
    · rw [zHf (by omega)]
    · rw [zHf (by omega)]
    · obtain ⟨k,rfl⟩:=Int.eq_ofNat_of_zero_le (show 0 ≤ at_ by omega)
      rw [zHe (k:=k) hv,if_pos (by omega)]
    · obtain ⟨k,rfl⟩:=Int.eq_ofNat_of_zero_le (show 0 ≤ at_ by omega)
      rw [zHe (k:=k) hv,if_pos (by omega)]
    · obtain ⟨k,rfl⟩:=Int.eq_ofNat_of_zero_le (show 0 ≤ at_ by omega)
      have he:=zHe (k:=k) hv
      rw [if_neg (by omega)] at he
      refine zAr (α:=Nat) (fun i=>i ≤ v.kids.toNat ∧ 0 ≤ seqE L ((k : Int) + 1) i) (fun i=>[(0,.d (zAc L)),(1,.d (i64 (k : Int))),(5,.d (i64 (seqE L ((k : Int) + 1) i))),(6,.d (i64 (i : Int)))]) (fun _=>[]) (fun i=>v.kids.toNat - i) 0 ⟨Nat.zero_le _,by simp only [seqE];omega⟩
        (zAO (zAA rfl (zAA rfl (zAA rfl (zAA rfl zAa)))) zAN rfl rfl) ?_
      rintro i ⟨hi1,hi2⟩
      have hg:=zHt hi2
      repeat' first | apply en_n|apply zAH|apply zAB|apply zAF|apply w0|(apply zAV (hb:=zIH) (hc:=ih _ _))|(apply aJ (hd:=rfl);(first|exact zAk rfl|exact Co_bb rfl rfl rfl|exact Co_nn rfl);exact rfl;(with_reducible exact zAW);assumption;omega;exact fun _=>rfl)|apply ay (hd:=rfl)|exact zAE rfl|exact zAC rfl|(apply zAy;exact rfl;(with_reducible exact fn_3))|(apply zAg;exact rfl;(with_reducible exact zAs))|exact zCQ rfl rfl|exact zBC rfl rfl|(apply zAz;exact rfl;(intro hb);rotate_left;(intro hb);rotate_right)|apply zAI|apply zAP|apply zAM|apply zAt|apply en_r|apply en_e|apply eb_n|apply eb_r|apply eb_e|apply zAJ|exact res1 rfl|exact zAG|refine zAX rfl ?_
      · omega
      · have h1:=zDy hi2
        have h2:=zOb (a:=(k : Int) + 1) (by omega) (zGC (j:=v.kids.toNat) (show seqE L ((k : Int) + 1) (i + 1) < 0 by omega) (by omega))
        rw [he,h2]
      · omega
      · refine ⟨i + 1,⟨by omega,by rw [zDy hi2];omega⟩,by omega,zAO (zAA rfl (zAA rfl (Le_d rfl ?_ (zAA rfl zAa)))) zAN rfl rfl⟩
        rw [zDy hi2]
      · rw [he,show i = v.kids.toNat by omega]
theorem rEnd (L : List Nd) (at_ : Int) (hL : L.length ≤ 2000000) : zAj Tryz.prog 44 [zAc L,i64 at_] (i64 (endF L at_)):=zSc L hL ((L.length : Int) - at_).toNat at_ (by omega)
theorem zHv (L : List Nd) (hL : L.length ≤ 2000000) : zAj Tryz.prog 23 [zAc L] (bl (zB7 L)):=by
  refine zAd Tryz.func23 rfl Tryz.ntmps23 Tryz.results23 rfl ?_
  intro wb St0
  repeat' first | apply en_n|apply zAH|apply zAB|apply zAF|apply w0|(apply zAV (hb:=zIH) (hc:=rEnd L _ hL))|apply ay (hd:=rfl)|exact zAE rfl|exact zAC rfl|(apply zAl;exact rfl;(with_reducible exact zA0))|exact zEk rfl rfl|exact zCz rfl rfl|exact zAi rfl rfl|exact zAh rfl rfl|exact w1 rfl rfl|(apply k1 (hd:=rfl);exact rfl;exact rfl)|(apply gD;exact rfl;exact rfl;(intro hb);rotate_left;(intro hb);rotate_right)|apply zAM|apply zAJ|exact res1 rfl|exact zAG|refine zAX rfl ?_
  · have h : 0 < L.length:=by omega
    simp [zB7,h]
  · have h : ¬ 0 < L.length:=by omega
    simp [zB7,h]
def zNq (L : List Nd) (a : Int) : Nat:=match L[a.toNat]? with
  | some x=>x.kids.toNat
  | none=>0
def zBV (L : List Nd) (a : Int) : List Int:=if endF L a < 0 then [] else (List.range (zNq L a)).map (seqE L (a + 1))
theorem zKn {L : List Nd} {a : Int} (h : ¬ endF L a < 0) : ∃ (k : Nat) (x : Nd),a = k ∧ L[k]? = some x ∧ 0 ≤ x.kids ∧ x.kids ≤ L.length ∧ endF L a = seqE L (a + 1) x.kids.toNat ∧ zNq L a = x.kids.toNat ∧ zBV L a = (List.range x.kids.toNat).map (seqE L (a + 1)):=by
  have hb:=zEv L a
  obtain ⟨k,rfl⟩:=Int.eq_ofNat_of_zero_le (show 0 ≤ a by omega)
  have hk : k < L.length:=by omega
  have hv : L[k]? = some L[k]:=List.getElem?_eq_getElem hk
  have he:=zHe hv
  have hg : ¬ (L[k].kids < 0 ∨ L[k].kids > L.length):=fun h0=>by rw [if_pos h0] at he;omega
  rw [if_neg hg] at he
  have hkn : zNq L (k : Int) = L[k].kids.toNat:=by unfold zNq;rw [Int.toNat_natCast,hv]
  exact ⟨k,L[k],rfl,hv,by omega,by omega,he,hkn,by rw [zBV,if_neg h,hkn]⟩
theorem zKm (f : Nat → Int) (i : Nat) : ((List.range i).map f).map ival ++ [i64 (f i)] = ((List.range (i + 1)).map f).map ival:=by
  rw [List.range_succ,List.map_append,List.map_append];rfl
theorem zCa (L : List Nd) (at_ : Int) (hL : L.length ≤ 2000000) : zAj Tryz.prog 54 [zAc L,i64 at_] (zBj (zBV L at_)):=by
  refine zAd Tryz.func54 rfl Tryz.ntmps54 Tryz.results54 rfl ?_
  intro wb St0
  repeat' first | apply en_n|apply zAH|apply zAB|apply zAF|apply w0|(apply zAV (hb:=zFl) (hc:=zFq L _ hL))|(apply aI (hd:=rfl);(first|exact zAk rfl|exact Co_bb rfl rfl rfl|exact Co_nn rfl);exact rfl;(with_reducible exact zAW);exact fun _=>rfl;rotate_left;intro v hv;rotate_right)|apply ay (hd:=rfl)|exact zAE rfl|exact zAC rfl|(apply zAy;exact rfl;(with_reducible exact fn_3))|(apply zAg;exact rfl;(with_reducible exact zAs))|exact zCQ rfl rfl|exact zBC rfl rfl|exact zAb rfl|(apply zAz;exact rfl;(intro hb);rotate_left;(intro hb);rotate_right)|apply zAI|apply zAP|apply zAM|apply en_r|apply zAJ|exact zQn rfl|exact zAG|refine zAX rfl ?_
  · rw [zBV,if_pos hb];rfl
  · have:=zEv L at_;omega
  · have:=zEv L at_;omega
  · obtain ⟨k,x,hak,hx,h0,h1,he,hn,hf⟩:=zKn hb
    subst hak
    obtain rfl : v = x:=by rw [Int.toNat_natCast] at hv;rw [hx] at hv;exact (Option.some.inj hv).symm
    refine zCE 5 false 3 1 rfl rfl ?_
    refine zAr (α:=Nat) (fun i=>i ≤ v.kids.toNat ∧ 0 ≤ seqE L ((k : Int) + 1) i) (fun i=>[(0,.d (zAc L)),(1,.d (i64 (seqE L ((k : Int) + 1) i))),(5,.buf 0 (((List.range i).map (seqE L ((k : Int) + 1))).map ival).length),(6,.d (i64 v.kids))])
      (fun i=>[.buf false 3 1 (((List.range i).map (seqE L ((k : Int) + 1))).map ival)]) (fun i=>v.kids.toNat - i) 0 ⟨Nat.zero_le _,by simp only [seqE];omega⟩
      (zAO (zAA rfl (zAA rfl (zBq rfl rfl (zAA rfl zAa)))) (zAD rfl rfl zAN) rfl rfl) ?_
    rintro i ⟨hi1,hi2⟩
    have hg:=zHt hi2
    repeat' first | apply en_n|apply zAH|apply zAB|apply zAF|apply w0|(apply zAV (hb:=zFl) (hc:=zFq L _ hL))|(apply aApp (hd:=rfl) (hro:=rfl);exact rfl;exact rfl;(first|exact zAk rfl|exact Co_bb rfl rfl rfl|exact Co_nn rfl);(first|exact rfl|(simp;done));exact rfl;(with_reducible exact zCw);(with_reducible exact zA7);(with_reducible exact zIl);(with_reducible exact zG4);(first|exact zCC (fun _=>rfl)|exact zCA rfl))|apply ay (hd:=rfl)|exact zAE rfl|exact zAC rfl|exact zCQ rfl rfl|exact zAw rfl|exact zAm rfl|(apply zCo;exact rfl;(with_reducible exact zBt))|(apply zB8;(with_reducible exact zCw);(with_reducible exact zA7);(with_reducible exact zIk);exact rfl;exact rfl;(first|exact zAX rfl zAG|exact zCx rfl rfl rfl zAG|exact zDB rfl zAG);exact rfl)|(apply zAz;exact rfl;(intro hb);rotate_left;(intro hb);rotate_right)|apply zAI|apply zAP|apply zAM|apply zAt|apply en_e|apply eb_n|apply eb_e|apply zAJ|(apply zGq;exact rfl;exact rfl;(first|exact rfl|(simp;done)))|exact zAG|refine zAX rfl ?_
    · simp only [List.length_map,List.length_range,List.length_singleton];omega
    · simp only [List.length_map,List.length_range] at hb
      have h3 : 0 ≤ seqE L ((k : Int) + 1) (i + 1):=by
        rcases Int.lt_or_le (seqE L ((k : Int) + 1) (i + 1)) 0 with h4 | h4
        · have:=zGC (j:=v.kids.toNat) h4 (by omega);omega
        · exact h4
      refine ⟨i + 1,⟨by omega,h3⟩,by omega,?_⟩
      refine zAO (zAA rfl (Le_d rfl ?_ (zBq rfl ?_ (zAA rfl zAa)))) (zAu rfl rfl (zKm _ i).symm zAN) rfl rfl
      · rw [zDy hi2]
      · simp only [List.length_map,List.length_range,List.length_singleton]
    · simp only [List.length_map,List.length_range] at hb
      rw [hf,show i = v.kids.toNat by omega];rfl
end Go.Proofs.YtblomnkamngnbaaGreatDoor
namespace Go.Proofs.YtblomnkamngnbaaGreatDoor
open Go.Sx Go.RowKit
attribute [local irreducible] Ylds zBA alex zBc zBO awp zAj zBX RCall zA2 zBH zBQ zA8 zBT zBZ zBd
theorem zKN {α : Type} {A B : List α} {i : Nat} {x : α} (h : A.take i = B.take i) (ha : A[i]? = some x) (hb : B[i]? = some x) : A.take (i + 1) = B.take (i + 1):=by
  rw [List.take_add_one,List.take_add_one,h,ha,hb]
theorem fd37 : (Tryz.prog.fieldsOf 40).toList = [⟨"Kind",38,0,false, "", "",0⟩,⟨"Text",9,1,false, "", "",8⟩,⟨"Num",2,2,false, "", "",24⟩,⟨"Kids",3,3,false, "", "",32⟩]:=by kernel_rfl
def Nd.vals (n : Nd) : List Value:=[.int .i64 n.kind,.string ⟨n.text.toArray⟩,.int .i64 n.num,.int .i64 n.kids]
theorem zTe (a b : Nd) : a = b ↔ a.kind = b.kind ∧ a.text = b.text ∧ a.num = b.num ∧ a.kids = b.kids:=by
  cases a;cases b;simp
theorem zTd (a b : Nd) (x y : Operand) (w : World) : ((do eqGuard .neq 40 x y (.agg a.vals.toArray) (.agg b.vals.toArray);binOp .neq 40 (.agg a.vals.toArray) (.agg b.vals.toArray) : Sem Value)).run Tryz.prog w = .ok (.bool (decide (a ≠ b))) w:=by
  have hS : Tryz.prog.underlying 40 = some (.struct (Tryz.prog.fieldsOf 40)):=by kernel_rfl
  have hp : Tryz.prog.stoodInHeld 40 = false:=by kernel_rfl
  have hg : Tryz.prog.eqGuardType Tryz.prog.depth 40 = false:=by kernel_rfl
  have u1 : Tryz.prog.underlying 38 = some (.int .i64):=by kernel_rfl
  have u2 : Tryz.prog.underlying 9 = some .string:=by kernel_rfl
  have u3 : Tryz.prog.underlying 2 = some (.int .i64):=by kernel_rfl
  have u4 : Tryz.prog.underlying 3 = some (.int .i64):=by kernel_rfl
  have p1 : Tryz.prog.plainKey 38 = true:=by kernel_rfl
  have p2 : Tryz.prog.plainKey 9 = true:=by kernel_rfl
  have p3 : Tryz.prog.plainKey 2 = true:=by kernel_rfl
  have p4 : Tryz.prog.plainKey 3 = true:=by kernel_rfl
  have hk : ∀ (n : Nd) (w : World),(part 38 n.vals.toArray 0).run Tryz.prog w = .ok (.int .i64 n.kind) w:=fun n w=>run_part_plain (w:=w) p1 rfl
  have ht : ∀ (n : Nd) (w : World),(part 9 n.vals.toArray 1).run Tryz.prog w = .ok (.string ⟨n.text.toArray⟩) w:=fun n w=>run_part_plain (w:=w) p2 rfl
  have hn : ∀ (n : Nd) (w : World),(part 2 n.vals.toArray 2).run Tryz.prog w = .ok (.int .i64 n.num) w:=fun n w=>run_part_plain (w:=w) p3 rfl
  have hi : ∀ (n : Nd) (w : World),(part 3 n.vals.toArray 3).run Tryz.prog w = .ok (.int .i64 n.kids) w:=fun n w=>run_part_plain (w:=w) p4 rfl
  simp only [Sem.run_bind,run_eqGuard_agg w .neq _ x y _ _ hg,Result.andThen_ok,run_neq_struct]
  rw [show (10000 : Nat) = 9998 + 1 + 1 from rfl,run_equalIn_agg w (9998 + 1) _ _ _ hS hp,fd37]
  have c1 : ("Kind" ≠ "_") = True:=by simp
  have c2 : ("Text" ≠ "_") = True:=by simp
  have c3 : ("Num" ≠ "_") = True:=by simp
  have c4 : ("Kids" ≠ "_") = True:=by simp
  simp only [Op.eqFields,c1,c2,c3,c4,if_true,hk,Sem.run_bind,Result.andThen_ok,run_equalIn_int _ _ _ _ _ _ _ u1]
  rw [show decide (a ≠ b) = decide (¬ (a.kind = b.kind ∧ a.text = b.text ∧ a.num = b.num ∧ a.kids = b.kids)) from decide_eq_decide.2 (not_congr (zTe a b))]
  by_cases h1 : a.kind = b.kind <;> by_cases h2 : a.text = b.text <;> by_cases h3 : a.num = b.num <;> by_cases h4 : a.kids = b.kids <;> simp [h1,h2,h3,h4,ht,hn,hi,run_equalIn_int _ _ _ _ _ _ _ u3,run_equalIn_int _ _ _ _ _ _ _ u4,run_equalIn_string _ _ _ _ _ u2]
theorem zKC {η : List Ob} {σ : Sl} {dst : Option Nat} {ty : TypeId} {pos : String} {after : Array Edge} {gd : Option (Nat × Bool)} {x y : Operand} {yt : TypeId} {a b : Nd} (hx : oval σ x = .d a.av) (hy : oval σ y = .d b.av) :
    Ylds Tryz.prog η σ ⟨dst,.binOp .neq 40 x y yt,ty,pos,after,gd⟩ (.d (.val (.bool (decide (a ≠ b))))) :=
  zUS (us:=a.vals) (vs:=b.vals) hx hy (zTd a b x y)
theorem zTJ (A B : List Nd) (hL : A.length ≤ 2000000) : zAj Tryz.prog 17 [zAc A,zAc B] (bl (decide (A = B))):=by
  refine zAd Tryz.func17 rfl Tryz.ntmps17 Tryz.results17 rfl ?_
  intro wb St0
  repeat' first | apply en_n|apply zAH|apply zAB|apply zAF|apply w0|apply ay (hd:=rfl)|exact zAE rfl|exact zAC rfl|(apply zAl;exact rfl;(with_reducible exact zA0))|exact zD6 rfl rfl|(apply zAz;exact rfl;(intro hb);rotate_left;(intro hb);rotate_right)|apply zAI|apply zAP|apply zAM|apply en_r|apply zAJ|exact res1 rfl
  · have : A ≠ B:=fun e=>by subst e;omega
    rw [decide_eq_false this]
  · have hlen : A.length = B.length:=by omega
    refine zAr (α:=Nat) (fun i=>i ≤ A.length ∧ A.take i = B.take i) (fun i=>[(0,.d (zAc A)),(1,.d (zAc B)),(5,.d (i64 (i : Int)))]) (fun _=>[]) (fun i=>A.length - i) 0 ⟨Nat.zero_le _,rfl⟩
      (zAO (zAA rfl (zAA rfl (zAA rfl zAa))) zAN rfl rfl) ?_
    rintro i ⟨hi1,hi2⟩
    repeat' first | apply en_n|apply zAH|apply zAB|apply zAF|apply w0|exact zKC rfl rfl|(apply aI (hd:=rfl);(first|exact zAk rfl|exact Co_bb rfl rfl rfl|exact Co_nn rfl);exact rfl;(with_reducible exact zAW);exact fun _=>rfl;rotate_left;intro v hv;rotate_right)|apply ay (hd:=rfl)|exact zAE rfl|exact zAC rfl|(apply zAf;exact rfl;(with_reducible exact zAY);exact rfl)|(apply zAl;exact rfl;(with_reducible exact zA0))|exact zCQ rfl rfl|exact zBC rfl rfl|(apply zAz;exact rfl;(intro hb);rotate_left;(intro hb);rotate_right)|apply zAI|apply zAP|apply zAM|apply zAt|refine zA6 (by kernel_rfl) (by kernel_rfl) ?_|apply en_r|apply en_e|apply eb_n|apply eb_r|apply eb_e|apply zAJ|exact res1 rfl
    · omega
    · omega
    · rename_i b1 b2 u hu
      have : A ≠ B:=by rintro rfl;rw [hu] at hv;exact hb (Option.some.inj hv)
      rw [decide_eq_false this]
    · omega
    · rename_i b1 b2 u hu
      obtain rfl : u = v:=Decidable.not_not.1 hb
      exact ⟨i + 1,⟨by omega,zKN (i:=i) hi2 hu hv⟩,by omega,zAO (zAA rfl (zAA rfl (zAA rfl zAa))) zAN rfl rfl⟩
    · have h1:=hi2
      rw [show i = A.length by omega,List.take_length,hlen,List.take_length] at h1
      rw [decide_eq_true h1]
def idxF (A : List Int) (b : Int) : Int:=match A.findIdx? (· == b) with
  | some i=>i
  | none=>-1
theorem zLy {A : List Int} {b : Int} {i : Nat} (h : ∀ j,j < i → A[j]? ≠ some b) (hi : A[i]? = some b) : idxF A b = i:=by
  have : A.findIdx? (· == b) = some i:=by
    rw [List.findIdx?_eq_some_iff_getElem]
    obtain ⟨h1,h2⟩:=List.getElem?_eq_some_iff.1 hi
    refine ⟨h1,by simp [h2],fun j hj=>?_⟩
    have:=h j hj
    rw [List.getElem?_eq_getElem (by omega)] at this
    simpa using this
  rw [idxF,this]
theorem zFa {A : List Int} {b : Int} (h : b ∉ A) : idxF A b = -1:=by
  have : A.findIdx? (· == b) = none:=by
    rw [List.findIdx?_eq_none_iff]
    intro x hx
    simp;rintro rfl;exact h hx
  rw [idxF,this]
theorem zLx {A : List Int} {b : Int} (h : b ∈ A) : 0 ≤ idxF A b:=by
  rw [idxF];split
  · omega
  · rename_i hn
    rw [List.findIdx?_eq_none_iff] at hn
    have:=hn b h;simp at this
theorem zNR (A : List Int) (b : Int) (hL : A.length ≤ 2000000) : zAj Tryz.prog 72 [zBj A,i64 b] (i64 (idxF A b)):=by
  refine zAd Tryz.func72 rfl Tryz.ntmps72 Tryz.results72 rfl ?_
  intro wb St0
  repeat' first | apply en_n|apply zAH|apply zAB|apply zAF|apply w0|apply ay (hd:=rfl)|exact zAE rfl|exact zAC rfl|(apply zAl;exact rfl;(with_reducible exact zBt))|apply zAI
  refine zAr (α:=Nat) (fun i=>i ≤ A.length ∧ ∀ j,j < i → A[j]? ≠ some b) (fun i=>[(0,.d (zBj A)),(1,.d (i64 b)),(7,.d (i64 (A.length : Int))),(8,.d (i64 (i : Int)))]) (fun _=>[]) (fun i=>A.length - i) 0 ⟨Nat.zero_le _,by omega⟩
      (zAO (zAA rfl (zAA rfl (Le_d rfl rfl (zAA rfl zAa)))) zAN rfl rfl) ?_
  rintro i ⟨hi1,hi2⟩
  repeat' first | apply en_n|apply zAH|apply zAB|apply zAF|apply w0|(apply aI (hd:=rfl);(first|exact zAk rfl|exact Co_bb rfl rfl rfl|exact Co_nn rfl);exact rfl;(with_reducible exact zA7);exact fun _=>rfl;rotate_left;intro v hv;rotate_right)|apply ay (hd:=rfl)|exact zAE rfl|exact zAC rfl|(apply zAg;exact rfl;(with_reducible exact zAs))|exact zCQ rfl rfl|exact zCz rfl rfl|exact zBC rfl rfl|(apply zAz;exact rfl;(intro hb);rotate_left;(intro hb);rotate_right)|apply zAI|apply zAP|apply zAM|apply zAt|apply en_r|apply en_e|apply eb_n|apply eb_r|apply eb_e|apply zAJ|exact res1 rfl
  · omega
  · subst hb;rw [zLy hi2 hv]
  · omega
  · refine ⟨i + 1,⟨by omega,fun j hj=>?_⟩,by omega,zAO (zAA rfl (zAA rfl (zAA rfl (zAA rfl zAa)))) zAN rfl rfl⟩
    rcases Nat.lt_or_ge j i with h1 | h1
    · exact hi2 j h1
    · rw [show j = i by omega];intro h2;exact hb (Option.some.inj (h2.symm.trans hv))
  · rw [zFa];intro h1
    obtain ⟨j,hj,h2⟩:=List.getElem_of_mem h1
    exact hi2 j (by omega) (by rw [List.getElem?_eq_getElem hj,h2])
theorem zMK (A : List Int) (b : Int) (hL : A.length ≤ 2000000) : zAj Tryz.prog 118 [zBj A,i64 b] (bl (decide (b ∈ A))):=by
  refine zAd Tryz.func118 rfl Tryz.ntmps118 Tryz.results118 rfl ?_
  intro wb St0
  repeat' first | apply en_n|apply zAH|apply zAB|apply zAF|apply w0|(apply zAV (hb:=zGS) (hc:=zNR A b hL))|apply ay (hd:=rfl)|exact zAE rfl|exact zAC rfl|exact zEO rfl rfl|apply zAM|apply zAJ|exact res1 rfl|exact zAG|refine zAX rfl ?_
  by_cases h : b ∈ A
  · rw [decide_eq_true h];have:=zLx h;rw [decide_eq_true (show idxF A b ≥ 0 by omega)]
  · rw [decide_eq_false h,zFa h];rfl
end Go.Proofs.YtblomnkamngnbaaGreatDoor
namespace Go.Proofs.YtblomnkamngnbaaGreatDoor
open Go.ChangeShapes Go.WideShapes Go.ChangeAt Go.RowKit Go.Deep Go.Sx
def big (W : World) : Stab:=fun b _=>b < W.heap.size
theorem zS5 {W : World} {a : Addr} {u : Value} (h : W.cell? a = some u) : a.block < W.heap.size:=by
  unfold World.cell? at h
  rcases Nat.lt_or_ge a.block W.heap.size with h1 | h1
  · exact h1
  · rw [Array.getElem?_eq_none h1] at h;cases h
theorem zEu {α : Type} {Q : Nat → α → Prop} : ∀ n : Nat,(∀ i,i < n → ∃ x,Q i x) → ∃ L : List α,L.length = n ∧ ∀ i x,L[i]? = some x → Q i x
  | 0,_=>⟨[],rfl,fun i x h=>by simp at h⟩
  | n + 1,h=>by
    obtain ⟨L,hl,hq⟩:=zEu n (fun i hi=>h i (by omega))
    obtain ⟨y,hy⟩:=h n (by omega)
    refine ⟨L ++ [y],by simp [hl],fun i x hx=>?_⟩
    rcases Nat.lt_or_ge i n with h1 | h1
    · rw [List.getElem?_append_left (by omega)] at hx;exact hq i x hx
    · rw [List.getElem?_append_right (by omega),hl] at hx
      rcases Nat.lt_or_ge n i with h2 | h2
      · rw [List.getElem?_eq_none (by simp;omega)] at hx;cases hx
      · have : i = n:=by omega
        subst this;simp at hx;subst hx;exact hy
theorem zKY {W : World} {a : Addr} {len cap sz : Nat} {xs : List D} (hl : len = xs.length) (hc : len ≤ cap) (hm : cap ≤ maxLen) (hsz : ∀ x ∈ xs,x.flat.length = sz) (hp : 0 < sz)
    (h : ∀ (i : Nat) (d : D),xs[i]? = some d → ∀ (o : Nat) (c : D),d.flat[o]? = some c → ∃ u,W.cell? (a.add (i * sz + o)) = some u ∧ u.oneCell' = true ∧ RepD (big W) W u c) :
    RepD (big W) W (.slice (some a) len cap) (.slice xs):=by
  have hfl:=zBg hsz
  obtain ⟨us,hul,huq⟩:=zEu (Q:=fun j u=>W.cell? (a.add j) = some u ∧ u.oneCell' = true ∧ ∀ c,(zB1 xs)[j]? = some c → RepD (big W) W u c) (xs.length * sz) (fun j hj=>by
    have hi : j / sz < xs.length:=by rw [Nat.div_lt_iff_lt_mul hp];exact hj
    have ho : j % sz < sz:=Nat.mod_lt _ hp
    have hjj : j / sz * sz + j % sz = j:=by rw [Nat.mul_comm];exact Nat.div_add_mod j sz
    have hd : xs[j / sz]? = some xs[j / sz]:=List.getElem?_eq_getElem hi
    have hdl:=hsz _ (List.getElem_mem hi)
    have hc' : (xs[j / sz]).flat[j % sz]? = some ((xs[j / sz]).flat[j % sz]'(by omega)):=List.getElem?_eq_getElem (by omega)
    obtain ⟨u,h1,h2,h3⟩:=h _ _ hd _ _ hc'
    refine ⟨u,by rw [← hjj];exact h1,h2,fun c hcc=>?_⟩
    have h4:=zFf hsz hd ho
    rw [hjj,hcc,hc'] at h4
    injection h4 with h4;rw [h4];exact h3)
  refine .slice (some a) len cap sz xs us hl hc hm hsz (by rw [hul,hfl]) (fun u hu=>?_) (fun _=>⟨a,rfl,fun j u hu=>⟨?_,(huq j u hu).1⟩⟩) (fun j u d hu hd=>(huq j u hu).2.2 d hd)
  · obtain ⟨j,hj,rfl⟩:=List.getElem_of_mem hu
    exact (huq j _ (List.getElem?_eq_getElem hj)).2.1
  · have h1:=zS5 (huq j u hu).1
    have h2 : (a.add j).block = a.block:=by unfold Addr.add;split <;> rfl
    rw [h2] at h1;exact h1
theorem zOm {W : World} : RepD (big W) W (.slice none 0 0) (.slice []) :=
  .slice none 0 0 0 [] [] rfl (Nat.le_refl _) (Nat.zero_le _) (by simp) (by simp [zB1]) (by simp) (fun h=>absurd h (by simp)) (fun j u d h=>by simp at h)
theorem zMU : Tryz.prog.underlying 23 = some (.slice 40):=by kernel_rfl
theorem zSS : Tryz.prog.underlying 40 = some (.struct #[⟨"Kind",38,0,false, "", "",0⟩,⟨"Text",9,1,false, "", "",8⟩,⟨"Num",2,2,false, "", "",24⟩,⟨"Kids",3,3,false, "", "",32⟩]):=by kernel_rfl
theorem zST : Tryz.prog.underlying 38 = some (.int .i64):=by kernel_rfl
theorem zTV : Tryz.prog.underlying 2 = some (.int .i64):=by kernel_rfl
theorem zRs : Tryz.prog.underlying 9 = some .string:=by kernel_rfl
theorem zS3 : Tryz.prog.cellsOf 40 = 4:=by kernel_rfl
theorem zQ0 : oneCellFields Tryz.prog #[⟨"Kind",38,0,false, "", "",0⟩,⟨"Text",9,1,false, "", "",8⟩,⟨"Num",2,2,false, "", "",24⟩,⟨"Kids",3,3,false, "", "",32⟩] = true:=by kernel_rfl
section
variable {H : Type} {enc : TypeId × Value → H} {P : Program} {w : World} {base : Nat} {spare : Nat → Bool} {held : Bool}
theorem zH4 {t e : TypeId} {fs : Array Field} {fuel : Nat} {cs : List Value} {x : DataW H × List MemPlace} (ht : P.underlying t = some (.slice e)) (he : P.underlying e = some (.struct fs))
    (hone : oneCellFields P fs = true) (hC : P.cellsOf e = fs.size) (h : DataW.trod enc P w base spare held fuel t cs = some x) :
    cs = [.slice none 0 0] ∨
    ∃ (a : Addr) (len cap : Nat),cs = [.slice (some a) len cap] ∧ len ≤ cap ∧ cap ≤ maxLen ∧
      ∀ i,i < len → ∃ n : Nat,∀ (j : Nat) (f : Field),fs[j]? = some f → ∃ (v : Value) (y : DataW H × List MemPlace),w.cell? (a.add (i * fs.size + j)) = some v ∧ DataW.trod enc P w base spare held n f.type [v] = some y:=by
  rcases open_slice ht h with h0 | ⟨a,len,cap,m,n,D,Pl,hcs,hb,hl,hm,hmm,hx,hi⟩
  · exact .inl h0.1
  · refine .inr ⟨a,len,cap,hcs,hl,hm,fun i him=>?_⟩
    obtain ⟨cs',hc,ht'⟩:=hi i (by rw [hmm];split <;> omega)
    rw [hC] at hc
    obtain ⟨ys,n',hn',hy,hlen,hyl,hf⟩:=DataW.trod_struct he ht'
    obtain ⟨_,hcl,hat⟩:=World.cells?_some hc
    refine ⟨n',fun j f hj=>?_⟩
    obtain ⟨ho,hk⟩:=hone_of hone j f hj
    have hjl : j < fs.size:=(Array.getElem?_eq_some_iff.1 hj).1
    have hcell:=hat j hjl
    have hv : cs'[j]? = some (cs'[j]'(by omega)):=List.getElem?_eq_getElem (by omega)
    have h1:=hf j f hj
    rw [ho,hk] at h1
    have hone' : (cs'.drop j).take 1 = [cs'[j]'(by omega)]:=by
      rw [List.drop_eq_getElem_cons (by omega)]
      rfl
    rw [hone'] at h1
    have hys : ys[j]? = some (ys[j]'(by omega)):=List.getElem?_eq_getElem (by omega)
    refine ⟨_,_,?_,h1.trans hys⟩
    rw [← Go.Deep.add_add,hcell,hv]
end
set_option maxRecDepth 100000 in
theorem zMq {H : Type} {enc : TypeId × Value → H} {W : World} {fuel : Nat} {cs : List Value} {x : DataW H × List MemPlace} (h : DataW.trod enc Tryz.prog W 0 (fun _=>true) true fuel 23 cs = some x) :
    ∃ v L,cs = [v] ∧ v.oneCell' = true ∧ RepD (big W) W v (zAc L):=by
  rcases zH4 zMU zSS zQ0 zS3 h with h0 | ⟨a,len,cap,hcs,hl,hm,hi⟩
  · exact ⟨_,[],h0,rfl,zOm⟩
  · obtain ⟨L,hL,hq⟩:=zEu (Q:=fun i (n : Nd)=>∀ (o : Nat) (u : Value),n.vals[o]? = some u → W.cell? (a.add (i * 4 + o)) = some u) len (fun i hil=>by
      obtain ⟨n,hf⟩:=hi i hil
      obtain ⟨u0,y0,c0,t0⟩:=hf 0 _ rfl
      obtain ⟨u1,y1,c1,t1⟩:=hf 1 _ rfl
      obtain ⟨u2,y2,c2,t2⟩:=hf 2 _ rfl
      obtain ⟨u3,y3,c3,t3⟩:=hf 3 _ rfl
      obtain ⟨k,e0,_,_⟩:=DataW.trod_int zST t0
      obtain ⟨s,e1,_,_⟩:=DataW.trod_string zRs t1
      obtain ⟨m,e2,_,_⟩:=DataW.trod_int zTV t2
      obtain ⟨z,e3,_,_⟩:=DataW.trod_int zES t3
      injection e0 with e0;injection e1 with e1;injection e2 with e2;injection e3 with e3
      subst e0;subst e1;subst e2;subst e3
      refine ⟨⟨k,s.data.toList,m,z⟩,fun o u hu=>?_⟩
      match o,hu with
      | 0,hu=>injection hu with hu;subst hu;exact c0
      | 1,hu=>injection hu with hu;subst hu;exact c1
      | 2,hu=>injection hu with hu;subst hu;exact c2
      | 3,hu=>injection hu with hu;subst hu;exact c3
      | o + 4,hu=>simp [Nd.vals] at hu)
    refine ⟨_,L,hcs,rfl,zKY (sz:=4) (by rw [List.length_map,hL]) hl hm (zCC fun _=>rfl) (by decide) fun i d hd o c hc=>?_⟩
    rw [List.getElem?_map] at hd
    cases hn : L[i]? with
    | none=>rw [hn] at hd;cases hd
    | some n =>
      rw [hn] at hd;injection hd with hd;subst hd
      have h1:=hq i n hn o
      match o,hc,h1 with
      | 0,hc,h1=>injection hc with hc;subst hc;exact ⟨_,h1 _ rfl,rfl,.val _⟩
      | 1,hc,h1=>injection hc with hc;subst hc;exact ⟨_,h1 _ rfl,rfl,.val _⟩
      | 2,hc,h1=>injection hc with hc;subst hc;exact ⟨_,h1 _ rfl,rfl,.val _⟩
      | 3,hc,h1=>injection hc with hc;subst hc;exact ⟨_,h1 _ rfl,rfl,.val _⟩
      | o + 4,hc,_=>exact absurd hc (by simp [Nd.av,D.flat])
set_option maxRecDepth 100000 in
theorem zOz {H : Type} {enc : TypeId × Value → H} {W : World} {r : Reach} {b0 : Nat} {v : Value} {d : DataW H} {p : List MemPlace} (hv : Value.okWide Tryz.prog W r b0 23 v) (h : DataW.Trod enc Tryz.prog W 0 (fun _=>true) true 23 v d p) :
    ∃ L,RepD (big W) W v (zAc L):=by
  obtain ⟨a,len,cap,rfl⟩:=okWide_slice zMU hv
  obtain ⟨fuel,hf⟩:=h
  obtain ⟨v',L,hc,_,hr⟩:=zMq hf
  simp [Value.cells] at hc
  subst hc
  exact ⟨L,hr⟩
end Go.Proofs.YtblomnkamngnbaaGreatDoor
namespace Go.Proofs
open Go.Shelf
def Tryz.lays137_ren : Go.Shelf.Ren:=⟨fun | 137=>125 | 217=>142 | 266=>165 | n=>n,fun | 9=>9 | 5=>5 | 3=>3 | n=>n,fun | n=>n⟩
theorem Tryz.lays137 : Go.Proofs.Lays.n137 Tryz.prog Tryz.lays137_ren:={
  mixed:=by kernel_rfl
  f137:=Tryz.func125.trans (congrArg some (by kernel_rfl))
  f217:=Tryz.func142.trans (congrArg some (by kernel_rfl))
  f266:=Tryz.func165.trans (congrArg some (by kernel_rfl))
  t3:=Tryz.underlying3
  a3:=Tryz.isAgg3
  z3:=Tryz.sizeOf3
  v3:=Tryz.zeroValue3
  t5:=Tryz.underlying5
  a5:=Tryz.isAgg5
  z5:=Tryz.sizeOf5
  v5:=Tryz.zeroValue5
  t9:=Tryz.underlying9
  a9:=Tryz.isAgg9
  z9:=Tryz.sizeOf9
  v9:=Tryz.zeroValue9 }
open Go.RowKit in
theorem Tryz.strings_IndexByte (s : ByteArray) (c : Int) (w : World) :
    Calls Tryz.prog 125 #[.string s,.int .u8 c] w fun e w'=>e = .returned (.int .i64 (Lib.indexByte s.data.toList c.toNat.toUInt8)) ∧ w' = w:=Any.strings_IndexByte Tryz.lays137 s c w
def Tryz.laysM173_ren : Go.Shelf.Ren:=⟨fun | 173=>73 | 246=>119 | 283=>136 | 284=>137 | 285=>138 | 286=>139 | 129=>156 | 317=>159 | 318=>160 | 319=>161 | 320=>162 | 337=>174 | 338=>175 | n=>n,fun | 2=>2 | 3=>3 | 9=>9 | 4=>4 | 171=>152 | 0=>0 | 53=>134 | 37=>155 | 5=>5 | 173=>156 | 212=>174 | 51=>171 | 20=>20 | 213=>175 | 46=>136 | 232=>193 | 233=>194 | n=>n,fun | 17=>0 | 18=>4 | 19=>5 | n=>n⟩
theorem Tryz.laysM173 : Go.Proofs.LaysM.n173 Tryz.prog Tryz.laysM173_ren:={
  mixed:=by kernel_rfl
  f129:=Tryz.func156.trans (congrArg some (by kernel_rfl))
  f173:=Tryz.func73.trans (congrArg some (by kernel_rfl))
  f246:=Tryz.func119.trans (congrArg some (by kernel_rfl))
  f283:=Tryz.func136.trans (congrArg some (by kernel_rfl))
  f284:=Tryz.func137.trans (congrArg some (by kernel_rfl))
  f285:=Tryz.func138.trans (congrArg some (by kernel_rfl))
  f286:=Tryz.func139.trans (congrArg some (by kernel_rfl))
  f317:=Tryz.func159.trans (congrArg some (by kernel_rfl))
  f318:=Tryz.func160.trans (congrArg some (by kernel_rfl))
  f319:=Tryz.func161.trans (congrArg some (by kernel_rfl))
  f320:=Tryz.func162.trans (congrArg some (by kernel_rfl))
  f337:=Tryz.func174.trans (congrArg some (by kernel_rfl))
  f338:=Tryz.func175.trans (congrArg some (by kernel_rfl))
  t0:=Tryz.underlying0
  a0:=Tryz.isAgg0
  z0:=Tryz.sizeOf0
  v0:=Tryz.zeroValue0
  t2:=Tryz.underlying2
  a2:=Tryz.isAgg2
  z2:=Tryz.sizeOf2
  v2:=Tryz.zeroValue2
  t3:=Tryz.underlying3
  a3:=Tryz.isAgg3
  z3:=Tryz.sizeOf3
  v3:=Tryz.zeroValue3
  t4:=Tryz.underlying4
  a4:=Tryz.isAgg4
  z4:=Tryz.sizeOf4
  v4:=Tryz.zeroValue4
  t5:=Tryz.underlying5
  a5:=Tryz.isAgg5
  z5:=Tryz.sizeOf5
  v5:=Tryz.zeroValue5
  t9:=Tryz.underlying9
  a9:=Tryz.isAgg9
  z9:=Tryz.sizeOf9
  v9:=Tryz.zeroValue9
  t20:=Tryz.underlying20
  a20:=Tryz.isAgg20
  z20:=Tryz.sizeOf20
  v20:=Tryz.zeroValue20
  t37:=Tryz.underlying155
  a37:=Tryz.isAgg155
  z37:=Tryz.sizeOf155
  v37:=Tryz.zeroValue155
  t46:=Tryz.underlying136
  a46:=Tryz.isAgg136
  z46:=Tryz.sizeOf136
  v46:=Tryz.zeroValue136
  t51:=Tryz.underlying171
  a51:=Tryz.isAgg171
  z51:=Tryz.sizeOf171
  v51:=Tryz.zeroValue171
  t53:=Tryz.underlying134
  a53:=Tryz.isAgg134
  z53:=Tryz.sizeOf134
  v53:=Tryz.zeroValue134
  t171:=Tryz.underlying152
  a171:=Tryz.isAgg152
  z171:=Tryz.sizeOf152
  v171:=Tryz.zeroValue152
  t173:=Tryz.underlying156
  a173:=Tryz.isAgg156
  z173:=Tryz.sizeOf156
  v173:=Tryz.zeroValue156
  t212:=Tryz.underlying174
  a212:=Tryz.isAgg174
  z212:=Tryz.sizeOf174
  v212:=Tryz.zeroValue174
  t213:=Tryz.underlying175
  a213:=Tryz.isAgg175
  z213:=Tryz.sizeOf175
  t232:=Tryz.underlying193
  a232:=Tryz.isAgg193
  z232:=Tryz.sizeOf193
  v232:=Tryz.zeroValue193
  t233:=Tryz.underlying194
  a233:=Tryz.isAgg194
  z233:=Tryz.sizeOf194
  v233:=Tryz.zeroValue194
  g17:=by kernel_rfl
  g18:=by kernel_rfl
  g19:=by kernel_rfl
  i0:=by kernel_rfl
  i2:=by kernel_rfl
  i3:=by kernel_rfl
  i4:=by kernel_rfl
  i5:=by kernel_rfl
  i9:=by kernel_rfl
  i20:=by kernel_rfl
  i37:=by kernel_rfl
  i46:=by kernel_rfl
  i51:=by kernel_rfl
  i53:=by kernel_rfl
  i171:=by kernel_rfl
  i173:=by kernel_rfl
  i212:=by kernel_rfl
  i232:=by kernel_rfl
  i233:=by kernel_rfl
  m17:=by kernel_rfl
  m18:=by kernel_rfl
  m19:=by kernel_rfl }
open Go.RowKit Go.Sort Go.Lib in
theorem Tryz.strconv_FormatInt_10 (n : Int) (h0 : -9223372036854775808 ≤ n) (h1 : n ≤ 9223372036854775807) (w : World) (htab : Lib.TabIs Tryz.prog w "internal/strconv.uint64pow10" .u64 Lib.pow10Tab) :
    Calls Tryz.prog 73 #[.int .i64 n,.int .i64 10] w fun e w'=>e = .returned (.string ⟨(Lib.itoa n).toArray⟩) ∧ ∃ k os,w' = grow (w.drewN k) os:=Any.strconv_FormatInt_10 Tryz.laysM173 n h0 h1 w htab
def Tryz.lays190_ren : Go.Shelf.Ren:=⟨fun | 190=>101 | 125=>128 | 258=>127 | 128=>155 | 129=>156 | 302=>146 | 303=>147 | 304=>148 | 305=>149 | 306=>150 | 307=>151 | 308=>152 | 309=>153 | 310=>154 | 333=>167 | 329=>168 | 330=>169 | 334=>170 | 335=>171 | 336=>172 | 344=>177 | n=>n,fun | 31=>71 | 9=>9 | 3=>3 | 46=>136 | 0=>0 | 51=>171 | 53=>134 | 4=>4 | 183=>163 | 182=>162 | 131=>168 | 5=>5 | 218=>179 | 222=>183 | 228=>190 | 229=>191 | n=>n,fun | n=>n⟩
theorem Tryz.lays190 : Go.Proofs.Lays.n190 Tryz.prog Tryz.lays190_ren:={
  mixed:=by kernel_rfl
  f125:=Tryz.func128.trans (congrArg some (by kernel_rfl))
  f128:=Tryz.func155.trans (congrArg some (by kernel_rfl))
  f129:=Tryz.func156.trans (congrArg some (by kernel_rfl))
  f190:=Tryz.func101.trans (congrArg some (by kernel_rfl))
  f258:=Tryz.func127.trans (congrArg some (by kernel_rfl))
  f302:=Tryz.func146.trans (congrArg some (by kernel_rfl))
  f303:=Tryz.func147.trans (congrArg some (by kernel_rfl))
  f304:=Tryz.func148.trans (congrArg some (by kernel_rfl))
  f305:=Tryz.func149.trans (congrArg some (by kernel_rfl))
  f306:=Tryz.func150.trans (congrArg some (by kernel_rfl))
  f307:=Tryz.func151.trans (congrArg some (by kernel_rfl))
  f308:=Tryz.func152.trans (congrArg some (by kernel_rfl))
  f309:=Tryz.func153.trans (congrArg some (by kernel_rfl))
  f310:=Tryz.func154.trans (congrArg some (by kernel_rfl))
  f329:=Tryz.func168.trans (congrArg some (by kernel_rfl))
  f330:=Tryz.func169.trans (congrArg some (by kernel_rfl))
  f333:=Tryz.func167.trans (congrArg some (by kernel_rfl))
  f334:=Tryz.func170.trans (congrArg some (by kernel_rfl))
  f335:=Tryz.func171.trans (congrArg some (by kernel_rfl))
  f336:=Tryz.func172.trans (congrArg some (by kernel_rfl))
  f344:=Tryz.func177.trans (congrArg some (by kernel_rfl))
  t0:=Tryz.underlying0
  a0:=Tryz.isAgg0
  z0:=Tryz.sizeOf0
  v0:=Tryz.zeroValue0
  t3:=Tryz.underlying3
  a3:=Tryz.isAgg3
  z3:=Tryz.sizeOf3
  v3:=Tryz.zeroValue3
  t4:=Tryz.underlying4
  a4:=Tryz.isAgg4
  z4:=Tryz.sizeOf4
  v4:=Tryz.zeroValue4
  t5:=Tryz.underlying5
  a5:=Tryz.isAgg5
  z5:=Tryz.sizeOf5
  v5:=Tryz.zeroValue5
  t9:=Tryz.underlying9
  a9:=Tryz.isAgg9
  z9:=Tryz.sizeOf9
  v9:=Tryz.zeroValue9
  t31:=Tryz.underlying71
  a31:=Tryz.isAgg71
  z31:=Tryz.sizeOf71
  v31:=Tryz.zeroValue71
  t46:=Tryz.underlying136
  a46:=Tryz.isAgg136
  z46:=Tryz.sizeOf136
  v46:=Tryz.zeroValue136
  t51:=Tryz.underlying171
  a51:=Tryz.isAgg171
  z51:=Tryz.sizeOf171
  v51:=Tryz.zeroValue171
  t53:=Tryz.underlying134
  a53:=Tryz.isAgg134
  z53:=Tryz.sizeOf134
  v53:=Tryz.zeroValue134
  t131:=Tryz.underlying168
  a131:=Tryz.isAgg168
  z131:=Tryz.sizeOf168
  v131:=Tryz.zeroValue168
  t182:=Tryz.underlying162
  a182:=Tryz.isAgg162
  z182:=Tryz.sizeOf162
  v182:=Tryz.zeroValue162
  t183:=Tryz.underlying163
  a183:=Tryz.isAgg163
  z183:=Tryz.sizeOf163
  v183:=Tryz.zeroValue163
  t218:=Tryz.underlying179
  a218:=Tryz.isAgg179
  z218:=Tryz.sizeOf179
  v218:=Tryz.zeroValue179
  t222:=Tryz.underlying183
  a222:=Tryz.isAgg183
  z222:=Tryz.sizeOf183
  v222:=Tryz.zeroValue183
  t228:=Tryz.underlying190
  a228:=Tryz.isAgg190
  z228:=Tryz.sizeOf190
  v228:=Tryz.zeroValue190
  t229:=Tryz.underlying191
  a229:=Tryz.isAgg191
  z229:=Tryz.sizeOf191
  v229:=Tryz.zeroValue191 }
open Go.Sort Go.RowKit in
theorem Tryz.slices_Sort_string (blk off cap : Nat) (ss : List (List UInt8)) (w : World) (hH : Holds encStr w blk off ss.toArray) (hblk : blk < w.heap.size) (hsz : ss.length < 4611686018427387904) :
    Calls Tryz.prog 101 #[.slice (some ⟨blk,off,none⟩) ss.length cap] w fun e w' =>
      e = .returned (.tuple #[]) ∧ ∃ n os,w' = grow (putRow encStr (Sort.ahead w n) blk off (ss.mergeSort fun x y=>decide (x ≤ y)).toArray) os:=Any.slices_Sort_string Tryz.lays190 blk off cap ss w hH hblk hsz
def Tryz.laysM157_ren : Go.Shelf.Ren:=⟨fun | 157=>141 | 229=>163 | 199=>164 | 261=>176 | 311=>178 | 312=>179 | n=>n,fun | 9=>9 | 31=>71 | 3=>3 | 5=>5 | 4=>4 | 119=>176 | 0=>0 | 40=>178 | 152=>185 | 21=>21 | 154=>187 | 51=>171 | 141=>189 | 196=>198 | 193=>195 | 198=>201 | 49=>199 | 194=>196 | 201=>204 | 226=>206 | 46=>136 | 227=>207 | n=>n,fun | 0=>1 | 6=>2 | n=>n⟩
theorem Tryz.laysM157 : Go.Proofs.LaysM.n157 Tryz.prog Tryz.laysM157_ren:={
  mixed:=by kernel_rfl
  f157:=Tryz.func141.trans (congrArg some (by kernel_rfl))
  f199:=Tryz.func164.trans (congrArg some (by kernel_rfl))
  f229:=Tryz.func163.trans (congrArg some (by kernel_rfl))
  f261:=Tryz.func176.trans (congrArg some (by kernel_rfl))
  f311:=Tryz.func178.trans (congrArg some (by kernel_rfl))
  f312:=Tryz.func179.trans (congrArg some (by kernel_rfl))
  t0:=Tryz.underlying0
  a0:=Tryz.isAgg0
  z0:=Tryz.sizeOf0
  v0:=Tryz.zeroValue0
  t3:=Tryz.underlying3
  a3:=Tryz.isAgg3
  z3:=Tryz.sizeOf3
  v3:=Tryz.zeroValue3
  t4:=Tryz.underlying4
  a4:=Tryz.isAgg4
  z4:=Tryz.sizeOf4
  v4:=Tryz.zeroValue4
  t5:=Tryz.underlying5
  a5:=Tryz.isAgg5
  z5:=Tryz.sizeOf5
  v5:=Tryz.zeroValue5
  t9:=Tryz.underlying9
  a9:=Tryz.isAgg9
  z9:=Tryz.sizeOf9
  v9:=Tryz.zeroValue9
  t21:=Tryz.underlying21
  a21:=Tryz.isAgg21
  z21:=Tryz.sizeOf21
  v21:=Tryz.zeroValue21
  t31:=Tryz.underlying71
  a31:=Tryz.isAgg71
  z31:=Tryz.sizeOf71
  v31:=Tryz.zeroValue71
  t40:=Tryz.underlying178
  a40:=Tryz.isAgg178
  z40:=Tryz.sizeOf178
  v40:=Tryz.zeroValue178
  t46:=Tryz.underlying136
  a46:=Tryz.isAgg136
  z46:=Tryz.sizeOf136
  v46:=Tryz.zeroValue136
  t49:=Tryz.underlying199
  a49:=Tryz.isAgg199
  z49:=Tryz.sizeOf199
  v49:=Tryz.zeroValue199
  t51:=Tryz.underlying171
  a51:=Tryz.isAgg171
  z51:=Tryz.sizeOf171
  v51:=Tryz.zeroValue171
  t119:=Tryz.underlying176
  a119:=Tryz.isAgg176
  z119:=Tryz.sizeOf176
  t141:=Tryz.underlying189
  a141:=Tryz.isAgg189
  z141:=Tryz.sizeOf189
  v141:=Tryz.zeroValue189
  t152:=Tryz.underlying185
  a152:=Tryz.isAgg185
  z152:=Tryz.sizeOf185
  v152:=Tryz.zeroValue185
  t154:=Tryz.underlying187
  a154:=Tryz.isAgg187
  z154:=Tryz.sizeOf187
  v154:=Tryz.zeroValue187
  t193:=Tryz.underlying195
  a193:=Tryz.isAgg195
  z193:=Tryz.sizeOf195
  v193:=Tryz.zeroValue195
  t194:=Tryz.underlying196
  a194:=Tryz.isAgg196
  z194:=Tryz.sizeOf196
  v194:=Tryz.zeroValue196
  t196:=Tryz.underlying198
  a196:=Tryz.isAgg198
  z196:=Tryz.sizeOf198
  v196:=Tryz.zeroValue198
  t198:=Tryz.underlying201
  a198:=Tryz.isAgg201
  z198:=Tryz.sizeOf201
  v198:=Tryz.zeroValue201
  t201:=Tryz.underlying204
  a201:=Tryz.isAgg204
  z201:=Tryz.sizeOf204
  v201:=Tryz.zeroValue204
  t226:=Tryz.underlying206
  a226:=Tryz.isAgg206
  z226:=Tryz.sizeOf206
  v226:=Tryz.zeroValue206
  t227:=Tryz.underlying207
  a227:=Tryz.isAgg207
  z227:=Tryz.sizeOf207
  v227:=Tryz.zeroValue207
  g0:=by kernel_rfl
  g6:=by kernel_rfl
  i0:=by kernel_rfl
  i3:=by kernel_rfl
  i4:=by kernel_rfl
  i5:=by kernel_rfl
  i9:=by kernel_rfl
  i21:=by kernel_rfl
  i31:=by kernel_rfl
  i40:=by kernel_rfl
  i46:=by kernel_rfl
  i49:=by kernel_rfl
  i51:=by kernel_rfl
  i141:=by kernel_rfl
  i152:=by kernel_rfl
  i154:=by kernel_rfl
  i193:=by kernel_rfl
  i194:=by kernel_rfl
  i196:=by kernel_rfl
  i198:=by kernel_rfl
  i201:=by kernel_rfl
  i226:=by kernel_rfl
  i227:=by kernel_rfl
  m0:=by kernel_rfl
  m6:=by kernel_rfl }
open Go.RowKit Go.Lib in
theorem Tryz.strings_Fields_laid (s : ByteArray) (w : World) (hs : s.size < 4294967281) (hascii : ∀ (j : Nat) b,s.data.toList[j]? = some b → b.toNat < 128) (htab : Lib.TabIs Tryz.prog w "strings.asciiSpace" .u8 Lib.asciiSpaceTab) :
    Calls Tryz.prog 141 #[.string s] w fun e w' =>
      e = .returned (.slice (some ⟨w.heap.size,0,none⟩) (Lib.fields s.data.toList).length (Lib.fields s.data.toList).length) ∧ w' = w.alloc (.cells ((Lib.fields s.data.toList).map fun l=>Value.string ⟨l.toArray⟩).toArray 9):=Any.strings_Fields_laid Tryz.laysM157 s w hs hascii htab
def Tryz.lays194_ren : Go.Shelf.Ren:=⟨fun | 194=>102 | n=>n,fun | 31=>71 | 9=>9 | 3=>3 | 4=>4 | 0=>0 | n=>n,fun | n=>n⟩
theorem Tryz.lays194 : Go.Proofs.Lays.n194 Tryz.prog Tryz.lays194_ren:={
  mixed:=by kernel_rfl
  f194:=Tryz.func102.trans (congrArg some (by kernel_rfl))
  t0:=Tryz.underlying0
  a0:=Tryz.isAgg0
  z0:=Tryz.sizeOf0
  v0:=Tryz.zeroValue0
  t3:=Tryz.underlying3
  a3:=Tryz.isAgg3
  z3:=Tryz.sizeOf3
  v3:=Tryz.zeroValue3
  t4:=Tryz.underlying4
  a4:=Tryz.isAgg4
  z4:=Tryz.sizeOf4
  v4:=Tryz.zeroValue4
  t9:=Tryz.underlying9
  a9:=Tryz.isAgg9
  z9:=Tryz.sizeOf9
  v9:=Tryz.zeroValue9
  t31:=Tryz.underlying71
  a31:=Tryz.isAgg71
  z31:=Tryz.sizeOf71
  v31:=Tryz.zeroValue71 }
open Go.RowKit Go.Lib Go.Sort in
theorem Tryz.slices_Compact_string (blk off cap : Nat) (zs : List (List UInt8)) (w : World) (hH : Holds encStr w blk off zs.toArray) (hsz : zs.length ≤ 9223372036854775807) (hcap : zs.length ≤ cap) :
    Calls Tryz.prog 102 #[.slice (some ⟨blk,off,none⟩) zs.length cap] w fun e w'=>e = .returned (.slice (some ⟨blk,off,none⟩) (Lib.compact zs).length cap) ∧ ∃ q,w' = putRow encStr (Sort.ahead w q) blk off (Lib.compact zs ++ List.replicate (zs.length - (Lib.compact zs).length) []).toArray:=Any.slices_Compact_string Tryz.lays194 blk off cap zs w hH hsz hcap
end Go.Proofs
namespace Go.Proofs.YtblomnkamngnbaaGreatDoor
open Go.Sx Go.RowKit
theorem zRu : zBK Tryz.prog 2 = some (false,1):=by kernel_rfl
theorem ui64 : Tryz.prog.underlying 2 = some (.int .i64):=by kernel_rfl
theorem uint : Tryz.prog.underlying 3 = some (.int .i64):=by kernel_rfl
theorem uu64 : Tryz.prog.underlying 134 = some (.int .u64):=by kernel_rfl
theorem uu8 : Tryz.prog.underlying 5 = some (.int .u8):=by kernel_rfl
theorem ustr : Tryz.prog.underlying 9 = some .string:=by kernel_rfl
theorem zF8 : Tryz.prog.underlying 4 = some .bool:=by kernel_rfl
theorem si64 : (Tryz.prog.underlying 2).isSome = true:=by kernel_rfl
theorem su64 : (Tryz.prog.underlying 134).isSome = true:=by kernel_rfl
theorem si32 : (Tryz.prog.underlying 21).isSome = true:=by kernel_rfl
theorem zM3 : zAT Tryz.prog 90 = true:=by kernel_rfl
theorem zM5 : zAT Tryz.prog 81 = true:=by kernel_rfl
theorem zSl : zAT Tryz.prog 121 = true:=by kernel_rfl
theorem zK4 : zAT Tryz.prog 73 = true:=by kernel_rfl
theorem zF4 (n : Int) : IntKind.u64.wrap n = n % 18446744073709551616:=by simp [IntKind.wrap,IntKind.bits,IntKind.signed]
theorem zF5 (n : Int) : IntKind.i64.wrap n = (n + 9223372036854775808) % 18446744073709551616 - 9223372036854775808:=by
  simp [IntKind.wrap,IntKind.bits,IntKind.signed];split <;> omega
theorem zSP (n : Int) : IntKind.u8.wrap n = n % 256:=by simp [IntKind.wrap,IntKind.bits,IntKind.signed]
def W (n : Int) : Int:=(n + 4611686018427387904) % 9223372036854775808 - 4611686018427387904
theorem zLe (n : Int) (h0 : -9223372036854775808 ≤ n) (h1 : n ≤ 9223372036854775807) : zAj Tryz.prog 73 [i64 n,i64 10] (str (Lib.itoa n)) :=
  zH1 (us:=[.int .i64 n,.int .i64 10]) (fun _ _=>.val _) fun _ w hgl=>(Tryz.strconv_FormatInt_10 n h0 h1 w (by
    obtain ⟨_,_,⟨e,t,h3⟩,_⟩:=hgl
    have key : ∀ (o : Option Nat),o = some 0 → (o.bind fun g=>match w.heap[g]? with | some (.cells cs _ _)=>some cs | _=>none) = some (Lib.pow10Tab.map fun z=>Value.int .u64 z).toArray:=by
      rintro _ rfl;simp only [Option.bind_some,h3]
    exact key _ (by kernel_rfl))).mono fun e w' ⟨he,k,os,hw⟩=>⟨he,by
      subst hw
      exact ⟨rfl,rfl,rfl,by simp [Sort.grow,World.drewN],fun i hi=>by simp [Sort.grow,World.drewN,Array.getElem?_append,hi]⟩⟩
end Go.Proofs.YtblomnkamngnbaaGreatDoor
namespace Go.Proofs.YtblomnkamngnbaaGreatDoor
open Go.Sx
structure Tk where
  kind : Int
  text : List UInt8
  num : Int
  pos : Int
deriving DecidableEq
def signL : List UInt8:=[33,36,37,38,42,43,45,47,58,60,61,62,63,64,94,124]
def zDg (c : UInt8) : Bool:=signL.contains c
def zEM (c : UInt8) : Bool:=decide (97 ≤ c.toNat ∧ c.toNat ≤ 122)
def zEN (c : UInt8) : Bool:=decide (65 ≤ c.toNat ∧ c.toNat ≤ 90)
def zFv (c : UInt8) : Bool:=decide (48 ≤ c.toNat ∧ c.toNat ≤ 57)
def zEp (c : UInt8) : Bool:=zEM c || zEN c || zFv c || c == 95 || c == 39
def kws : List (List UInt8):=[[108,101,116],[114,101,99],[105,110],[102,117,110],[105,102],[116,104,101,110],[101,108,115,101],[109,97,116,99,104],[119,105,116,104],[101,110,100],[114,97,105,115,101],[116,114,121],[111,112,101,110],[116,121,112,101],[111,102],[105,110,102,105,120,108],[105,110,102,105,120,114],[105,110,102,105,120],[45,62],[61],[124],[40],[41],[95],[59,59]]
def zQ8 (s : List UInt8) : Bool:=kws.contains s
def zIg (p : UInt8 → Bool) : List UInt8 → Nat
  | []=>0
  | c :: s=>if p c then zIg p s + 1 else 0
end Go.Proofs.YtblomnkamngnbaaGreatDoor
namespace Go.Proofs.YtblomnkamngnbaaGreatDoor
open Go.Sx Go.RowKit
theorem zBU : zBG Tryz.prog 71 = some 1:=by kernel_rfl
theorem zCy : (zB3 Tryz.prog 71).isSome = true:=by kernel_rfl
theorem zBz : zB3 Tryz.prog 71 = some 9:=by kernel_rfl
theorem fo_0 : zBM Tryz.prog 68 0 = some 0:=by kernel_rfl
theorem fo_1 : zBM Tryz.prog 68 1 = some 1:=by kernel_rfl
theorem fo_2 : zBM Tryz.prog 68 2 = some 2:=by kernel_rfl
theorem fo_3 : zBM Tryz.prog 68 3 = some 3:=by kernel_rfl
theorem zKM : zBK Tryz.prog 9 = some (false,1):=by kernel_rfl
theorem zRt : zBK Tryz.prog 3 = some (false,1):=by kernel_rfl
theorem zOW : zBK Tryz.prog 66 = some (false,1):=by kernel_rfl
theorem zE6 : zBK Tryz.prog 71 = some (false,1):=by kernel_rfl
theorem zCf : zBK Tryz.prog 26 = some (false,1):=by kernel_rfl
theorem zHm : zDG Tryz.prog 9 = some 1:=by kernel_rfl
theorem zF1 : zDA Tryz.prog 71 = some 16:=by kernel_rfl
theorem zDe : (zBm Tryz.prog 9).isSome = true:=by kernel_rfl
theorem zDf : zBm Tryz.prog 68 = some [.int .i64 0,.string ByteArray.empty,.int .i64 0,.int .i64 0]:=by kernel_rfl
theorem zR5 : zAT Tryz.prog 87 = true:=by kernel_rfl
theorem zRB : zAT Tryz.prog 124 = true:=by kernel_rfl
theorem zM4 : zAT Tryz.prog 88 = true:=by kernel_rfl
theorem zM8 : zAT Tryz.prog 89 = true:=by kernel_rfl
theorem zRK : zAT Tryz.prog 122 = true:=by kernel_rfl
theorem zRJ : zAT Tryz.prog 86 = true:=by kernel_rfl
theorem zSj : zAT Tryz.prog 91 = true:=by kernel_rfl
theorem zR4 : zAT Tryz.prog 85 = true:=by kernel_rfl
theorem zHb : zAT Tryz.prog 48 = true:=by kernel_rfl
theorem zK2 : zAT Tryz.prog 84 = true:=by kernel_rfl
theorem zFy : zAT Tryz.prog 123 = true:=by kernel_rfl
theorem zRL : zAT Tryz.prog 140 = true:=by kernel_rfl
theorem zPP : zAT Tryz.prog 141 = true:=by kernel_rfl
theorem zK3 : zAT Tryz.prog 125 = true:=by kernel_rfl
theorem zPJ : zAT Tryz.prog 120 = true:=by kernel_rfl
theorem zSk : zAT Tryz.prog 80 = true:=by kernel_rfl
theorem zTp : zAT Tryz.prog 78 = true:=by kernel_rfl
theorem zM2 : zAT Tryz.prog 79 = true:=by kernel_rfl
theorem zB5 : zAT Tryz.prog 42 = true:=by kernel_rfl
def Tk.av (n : Tk) : D:=.agg [.val (.int .i64 n.kind),.val (.string ⟨n.text.toArray⟩),.val (.int .i64 n.num),.val (.int .i64 n.pos)]
def strs (L : List (List UInt8)) : D:=.slice (L.map str)
theorem zJH (L : List (List UInt8)) : zB1 (L.map str) = L.map str:=by
  induction L with
  | nil=>rfl
  | cons x r ih=>exact congrArg (_ :: ·) ih
theorem zQo {w : World} {b : Nat} {L : List (List UInt8)} {e : TypeId} {t : Nat × Nat} {St : Stab} (hs : ∀ o,St b o) (hm : L.length ≤ maxLen) (h : w.heap[b]? = some (.cells (L.map fun l=>Value.string ⟨l.toArray⟩).toArray e t)) :
    RepD St w (.slice (some ⟨b,0,none⟩) L.length L.length) (strs L):=by
  refine .slice _ _ _ 1 (L.map str) (L.map fun l=>Value.string ⟨l.toArray⟩) (by simp) (Nat.le_refl _) hm (fun x hx=>?_) (by rw [zJH];simp) (fun u hu=>?_) (fun _=>⟨_,rfl,fun j u hu=>⟨hs _,?_⟩⟩) (fun j u d hu hd=>?_)
  · obtain ⟨l,_,rfl⟩:=List.mem_map.1 hx;rfl
  · obtain ⟨l,_,rfl⟩:=List.mem_map.1 hu;rfl
  · rw [Addr.add_lit,Nat.zero_add,cell_of_row w b j _ e t h];simpa using hu
  · rw [zJH,List.getElem?_map] at hd
    rw [List.getElem?_map] at hu
    cases hl : L[j]? with
    | none=>rw [hl] at hu;cases hu
    | some l=>rw [hl] at hu hd;cases hu;cases hd;exact .val _
def wordsT : List UInt8:=[108,101,116,32,114,101,99,32,105,110,32,102,117,110,32,105,102,32,116,104,101,110,32,101,108,115,101,32,109,97,116,99,104,32,119,105,116,104,32,101,110,100,32,114,97,105,115,101,32,116,114,121,32,111,112,101,110,32,116,121,112,101,32,111,102,32,105,110,102,105,120,108,32,105,110,102,105,120,114,32,105,110,102,105,120,32,45,62,32,61,32,124,32,40,32,41,32,95,32,59,59]
theorem zNX : Lib.fields wordsT = kws:=by decide +kernel
theorem zRa {s : List UInt8} (h : s.all (fun b=>decide (b.toNat < 128)) = true) : ∀ (j : Nat) b,s[j]? = some b → b.toNat < 128:=fun _j b hb=>of_decide_eq_true (List.all_eq_true.1 h b (List.mem_of_getElem? hb))
theorem zQS : zAj Tryz.prog 141 [str wordsT] (strs kws):=by
  intro St w vs hst hgl hr
  obtain ⟨v,rfl,hv⟩ : ∃ v,vs = [v] ∧ v = .string ⟨wordsT.toArray⟩:=by
    have:=RepDs.vals (us:=[.string ⟨wordsT.toArray⟩]) hr
    exact ⟨_,this,rfl⟩
  subst hv
  refine (Tryz.strings_Fields_laid ⟨wordsT.toArray⟩ w (by decide) (zRa (by decide)) ?_).mono fun e w' ⟨he,hw⟩=>?_
  · obtain ⟨_,_,_,e,t,h0⟩:=hgl
    have key : ∀ (o : Option Nat),o = some 1 → (o.bind fun g=>match w.heap[g]? with | some (.cells cs _ _)=>some cs | _=>none) = some (Lib.asciiSpaceTab.map fun z=>Value.int .u8 z).toArray:=by
      rintro _ rfl;simp only [Option.bind_some,h0]
    exact key _ (by kernel_rfl)
  · rw [show Lib.fields (⟨wordsT.toArray⟩ : ByteArray).data.toList = kws from zNX] at he hw
    subst hw
    refine ⟨_,fun b o=>St b o ∨ b = w.heap.size,he,zQo (fun _=>.inr rfl) (by decide) (t:=(0,0)) (by show (w.heap.push _)[w.heap.size]? = _;exact Array.getElem?_push_size),(Below.refl _ _).alloc (Nat.le_refl _) _,?_,fun b o h=>h.imp id (fun h=>by omega),fun b o h=>?_⟩
    · refine ⟨fun _ _ h=>.inl h,fun b o u hc hu=>?_,fun b hc=>?_⟩
      · exact (World.cell?_of_block (a:=⟨b,o,none⟩) (Below.heap_alloc _ _ _ (hst b o hc))).trans hu
      · exact Below.heap_alloc _ _ _ (hst b 0 (hc 0))
    · show b < (w.heap.push _).size
      rw [Array.size_push];rcases h with h | h
      · have:=hst b o h;omega
      · omega
theorem zLd (s : List UInt8) (c : UInt8) : zAj Tryz.prog 125 [str s,.val (.int .u8 c.toNat)] (i64 (Lib.indexByte s c)) :=
  zH1 (us:=[.string ⟨s.toArray⟩,.int .u8 c.toNat]) (fun _ _=>.val _) fun _ w _=>(Tryz.strings_IndexByte _ _ w).mono fun e w' ⟨he,hw⟩=>⟨by rw [he];simp,by subst hw;exact Below.refl _ _⟩
end Go.Proofs.YtblomnkamngnbaaGreatDoor
namespace Go.Proofs.YtblomnkamngnbaaGreatDoor
open Go.Sx
attribute [local irreducible] zAT Program.underlying Ylds zBA alex zBc zBO awp zAj zBX RCall zA2 zBH zBQ zA8 zBT zBZ zBd zBr
abbrev u8 (c : UInt8) : D:=.val (.int .u8 (c.toNat : Int))
theorem zC4 {a b : Bool} (h : a = b) : D.val (Value.bool a) = bl b:=by subst h;rfl
theorem zCl {a b : Int} (h : a = b) : D.val (Value.int .i64 a) = i64 b:=by subst h;rfl
theorem zMb (c : UInt8) : zAj Tryz.prog 88 [u8 c] (bl (zEM c)):=by
  refine zAd Tryz.func88 rfl Tryz.ntmps88 Tryz.results88 rfl ?_
  intro wb St0
  repeat' first | apply en_n|apply zAH|apply zAB|apply zAF|apply w0|(apply k1u (hd:=rfl);exact rfl;exact rfl)|apply ay (hd:=rfl)|exact zAE rfl|exact zAC rfl|exact zG9 rfl rfl|exact zAi rfl rfl|exact zAh rfl rfl|exact w1 rfl rfl|(apply gD;exact rfl;exact rfl;(intro hb);rotate_left;(intro hb);rotate_right)|apply zAM|apply zAJ|exact res1 rfl
  all_goals exact zC4 (by simp only [zEM];first | (rw [decide_eq_decide];omega) | (symm;rw [decide_eq_false_iff_not];omega))
theorem zNC (c : UInt8) : zAj Tryz.prog 89 [u8 c] (bl (zEN c)):=by
  refine zAd Tryz.func89 rfl Tryz.ntmps89 Tryz.results89 rfl ?_
  intro wb St0
  repeat' first | apply en_n|apply zAH|apply zAB|apply zAF|apply w0|(apply k1u (hd:=rfl);exact rfl;exact rfl)|apply ay (hd:=rfl)|exact zAE rfl|exact zAC rfl|exact zG9 rfl rfl|exact zAi rfl rfl|exact zAh rfl rfl|exact w1 rfl rfl|(apply gD;exact rfl;exact rfl;(intro hb);rotate_left;(intro hb);rotate_right)|apply zAM|apply zAJ|exact res1 rfl
  all_goals exact zC4 (by simp only [zEN];first | (rw [decide_eq_decide];omega) | (symm;rw [decide_eq_false_iff_not];omega))
theorem zRV (c : UInt8) : zAj Tryz.prog 122 [u8 c] (bl (zFv c)):=by
  refine zAd Tryz.func122 rfl Tryz.ntmps122 Tryz.results122 rfl ?_
  intro wb St0
  repeat' first | apply en_n|apply zAH|apply zAB|apply zAF|apply w0|(apply k1u (hd:=rfl);exact rfl;exact rfl)|apply ay (hd:=rfl)|exact zAE rfl|exact zAC rfl|exact zG9 rfl rfl|exact zAi rfl rfl|exact zAh rfl rfl|exact w1 rfl rfl|(apply gD;exact rfl;exact rfl;(intro hb);rotate_left;(intro hb);rotate_right)|apply zAM|apply zAJ|exact res1 rfl
  all_goals exact zC4 (by simp only [zFv];first | (rw [decide_eq_decide];omega) | (symm;rw [decide_eq_false_iff_not];omega))
theorem zTW (c d : UInt8) : (c == d) = decide ((c.toNat : Int) = (d.toNat : Int)):=by
  cases h : c == d with
  | true=>rw [eq_of_beq h];simp
  | false =>
    symm;rw [decide_eq_false_iff_not];intro h2
    have : c = d:=UInt8.toNat_inj.1 (by omega)
    rw [this] at h;simp at h
theorem zQ9 (c : UInt8) : zAj Tryz.prog 86 [u8 c] (bl (zEp c)):=by
  refine zAd Tryz.func86 rfl Tryz.ntmps86 Tryz.results86 rfl ?_
  intro wb St0
  repeat' first | apply en_n|apply zAH|apply zAB|apply zAF|apply w0|(apply k0u (hd:=rfl);exact rfl;exact rfl)|(apply zAV (hb:=zM4) (hc:=zMb c))|(apply zAV (hb:=zM8) (hc:=zNC c))|(apply zAV (hb:=zRK) (hc:=zRV c))|apply ay (hd:=rfl)|exact zAE rfl|exact zAC rfl|exact zCz rfl rfl|exact zAi rfl rfl|exact zAh rfl rfl|exact w1 rfl rfl|(apply gD;exact rfl;exact rfl;(intro hb);rotate_left;(intro hb);rotate_right)|apply zAM|apply zAJ|exact res1 rfl|exact zAG|refine zAX rfl ?_
  all_goals refine zC4 ?_
  all_goals simp only [zEp,zEM,zEN,zFv,zTW,← Bool.decide_or,show ((95 : UInt8).toNat : Int) = 95 from rfl,show ((39 : UInt8).toNat : Int) = 39 from rfl] at *
  all_goals first | (rw [decide_eq_decide];omega) | (symm;rw [decide_eq_true_eq];omega)
theorem zTl (c : UInt8) : decide (Lib.indexByte signL c ≥ 0) = zDg c:=by rw [zDg,Lib.contains_iff_indexByte]
theorem zSZ (c : UInt8) : zAj Tryz.prog 91 [u8 c] (bl (zDg c)):=by
  refine zAd Tryz.func91 rfl Tryz.ntmps91 Tryz.results91 rfl ?_
  intro wb St0
  repeat' first | apply en_n|apply zAH|apply zAB|apply zAF|apply w0|(apply zAV (hb:=zK3) (hc:=zLd signL c))|apply ay (hd:=rfl)|exact zAE rfl|exact zAC rfl|exact zEO rfl rfl|apply zAM|apply zAJ|exact res1 rfl|exact zAG|refine zAX rfl ?_
  exact zC4 (zTl c)
end Go.Proofs.YtblomnkamngnbaaGreatDoor
namespace Go.Proofs.YtblomnkamngnbaaGreatDoor
open Go.Sx
attribute [local irreducible] zAT Program.underlying Ylds zBA alex zBc zBO awp zAj zBX RCall zA2 zBH zBQ zA8 zBT zBZ zBd zBr
def isK (c : UInt8) : Int:=if zDg c then 5 else if zEM c then 1 else if zEN c then 2 else if zFv c then 3 else if c = 95 ∨ c = 39 then 4 else 0
theorem zQg {c : UInt8} {i : Nat} (h : i < 16) (h1 : ((signL.getD i 0).toNat : Int) = (c.toNat : Int)) : zDg c = true:=by
  have : signL.getD i 0 = c:=UInt8.toNat_inj.1 (by omega)
  have h2 : i < signL.length:=h
  rw [zDg,← this,List.getD_eq_getElem?_getD,List.getElem?_eq_getElem h2]
  simp
theorem zKQ {c : UInt8} (h : ∀ j,j < 16 → (signL.getD j 0) ≠ c) : zDg c = false:=by
  cases h2 : zDg c with
  | false=>rfl
  | true =>
    rw [zDg] at h2
    obtain ⟨j,hj,e⟩:=List.getElem_of_mem (List.contains_iff_mem.1 h2)
    refine absurd ?_ (h j hj)
    rw [List.getD_eq_getElem?_getD,List.getElem?_eq_getElem hj];exact e
set_option maxHeartbeats 4000000 in
theorem zTk (c : UInt8) : zAj Tryz.prog 78 [u8 c] (i64 (isK c)):=by
  refine zAd Tryz.func78 rfl Tryz.ntmps78 Tryz.results78 rfl ?_
  intro wb St0
  repeat' first | apply en_n|apply zAH|apply zAB|apply zAF|apply w0|apply ay (hd:=rfl)|exact zAC rfl|apply zAI
  refine zAr (α:=Nat) (fun i=>i ≤ 16 ∧ ∀ j,j < i → signL.getD j 0 ≠ c) (fun i=>[(0,.d (u8 c)),(3,.d (str signL)),(4,.d (i64 (i : Int)))]) (fun _=>[]) (fun i=>16 - i) 0 ⟨Nat.zero_le _,by omega⟩
      (zAO (zAA rfl (zAA rfl (zAA rfl zAa))) zAN rfl rfl) ?_
  rintro i ⟨hi1,hi2⟩
  have hL : signL.length = 16:=rfl
  repeat' first | apply en_n|apply zAH|apply zAB|apply zAF|apply w0|(apply k1u (hd:=rfl);exact rfl;exact rfl)|(apply k0u (hd:=rfl);exact rfl;exact rfl)|(apply zDU;exact rfl;with_reducible exact ustr)|(apply zKD;exact rfl;exact rfl;with_reducible exact ustr;(first|assumption|omega))|apply ay (hd:=rfl)|exact zAE rfl|exact zAC rfl|exact zCQ rfl rfl|exact zG9 rfl rfl|exact zEO rfl rfl|exact zCz rfl rfl|exact zBC rfl rfl|exact zAi rfl rfl|exact zAh rfl rfl|exact w1 rfl rfl|(apply gD;exact rfl;exact rfl;(intro hb);rotate_left;(intro hb);rotate_right)|(apply zAz;exact rfl;(intro hb);rotate_left;(intro hb);rotate_right)|exact zAK rfl|exact zAQ rfl|apply zAI|apply zAP|apply zAM|apply zAt|apply en_r|apply en_e|apply eb_n|apply eb_r|apply eb_e|apply zAJ|exact res1 rfl
  · rename_i h1;rw [hL] at h1
    exact zCl (by rw [isK,zQg (by omega) hb,if_pos rfl])
  · omega
  · rename_i h1;rw [hL] at h1
    refine ⟨i + 1,⟨by omega,fun j hj=>?_⟩,by omega,zAO (zAA rfl (zAA rfl (zAA rfl zAa))) zAN rfl rfl⟩
    rcases Nat.lt_or_ge j i with h | h
    · exact hi2 j h
    · rw [show j = i by omega];rintro rfl;exact hb rfl
  all_goals
    have hs : zDg c = false:=zKQ fun j hj=>hi2 j (by omega)
    have e95 : c = 95 ↔ (c.toNat : Int) = 95:=by rw [← UInt8.toNat_inj];show _ = 95 ↔ _;omega
    have e39 : c = 39 ↔ (c.toNat : Int) = 39:=by rw [← UInt8.toNat_inj];show _ = 39 ↔ _;omega
    refine zCl ?_
    rw [isK,hs,if_neg (by decide)]
    simp only [zEM,zEN,zFv,decide_eq_true_eq,e95,e39]
    repeat' split
    all_goals first | rfl | omega
end Go.Proofs.YtblomnkamngnbaaGreatDoor
namespace Go.Proofs.YtblomnkamngnbaaGreatDoor
open Go.Sx
attribute [local irreducible] zAT Program.underlying Ylds zBA alex zBc zBO awp zAj zBX RCall zA2 zBH zBQ zA8 zBT zBZ zBd zBr
theorem zHV (p : UInt8 → Bool) : ∀ (s : List UInt8) (n : Nat),n ≤ s.length → (∀ j,j < n → p (s.getD j 0) = true) → (n = s.length ∨ p (s.getD n 0) = false) → zIg p s = n
  | [],n,h,_,_=>by rw [zIg];simp at h;omega
  | c :: s,n,h,h1,h2=>by
    rw [zIg]
    cases n with
    | zero =>
      have h2 : p c = false:=by
        rcases h2 with h2 | h2
        · simp at h2
        · exact h2
      rw [h2];rfl
    | succ n =>
      have h3 : p c = true:=h1 0 (by omega)
      rw [if_pos h3,zHV p s n (by simpa using h) (fun j hj=>h1 (j + 1) (by omega)) (by simpa using h2)]
theorem getB {l : List UInt8} {i : Nat} (h : i < (⟨l.toArray⟩ : ByteArray).size) : (⟨l.toArray⟩ : ByteArray)[i]'h = l.getD i 0:=by
  have hlt : i < l.length:=by rw [zCq] at h;exact h
  rw [List.getD_eq_getElem?_getD,List.getElem?_eq_getElem hlt];rfl
theorem zPn {l : List UInt8} {i : Nat} (h : i < l.length) (h1 : ¬ ((Utf8.decode ⟨l.toArray⟩ i).1 : Int) > 126) : (Utf8.decode ⟨l.toArray⟩ i).2 = 1 ∧ (Utf8.decode ⟨l.toArray⟩ i).1 = (l.getD i 0).toNat ∧ (l.getD i 0).toNat ≤ 126:=by
  have hs : i < (⟨l.toArray⟩ : ByteArray).size:=by rw [zCq];exact h
  rcases Nat.lt_or_ge ((⟨l.toArray⟩ : ByteArray)[i]'hs).toNat 128 with h3 | h3
  · have e:=decode_ascii ⟨l.toArray⟩ i hs h3
    rw [getB hs] at e
    rw [e] at h1 ⊢
    dsimp only at h1
    exact ⟨rfl,rfl,by omega⟩
  · have:=(decode_high ⟨l.toArray⟩ i hs h3).1
    omega
theorem zN5 {l : List UInt8} {i : Nat} (h : i < l.length) (h1 : ((Utf8.decode ⟨l.toArray⟩ i).1 : Int) > 126) : (l.getD i 0).toNat > 126:=by
  have hs : i < (⟨l.toArray⟩ : ByteArray).size:=by rw [zCq];exact h
  rcases Nat.lt_or_ge ((⟨l.toArray⟩ : ByteArray)[i]'hs).toNat 128 with h3 | h3
  · have e:=decode_ascii ⟨l.toArray⟩ i hs h3
    rw [getB hs] at e
    rw [e] at h1
    dsimp only at h1
    omega
  · rw [getB hs] at h3
    omega
def allF (p : UInt8 → Bool) (s : List UInt8) : Bool:=s.all p && !s.isEmpty
theorem zP3 {p : UInt8 → Bool} {s : List UInt8} {i : Nat} (h : i < s.length) (h1 : p (s.getD i 0) = false) : allF p s = false:=by
  have : s.all p = false:=by
    rw [List.all_eq_false]
    refine ⟨s.getD i 0,?_,by rw [h1];decide⟩
    rw [List.getD_eq_getElem?_getD,List.getElem?_eq_getElem h];simp
  rw [allF,this];rfl
theorem zUC {p : UInt8 → Bool} {s : List UInt8} (h : ∀ j,j < s.length → p (s.getD j 0) = true) : allF p s = decide (s ≠ []):=by
  have : s.all p = true:=by
    rw [List.all_eq_true];intro x hx
    obtain ⟨j,hj,rfl⟩:=List.getElem_of_mem hx
    have:=h j hj
    rwa [List.getD_eq_getElem?_getD,List.getElem?_eq_getElem hj] at this
  rw [allF,this]
  cases s <;> simp
theorem zSD (f : FuncId) (p : UInt8 → Bool) (hb : zAT Tryz.prog f = true) (hp : ∀ c,zAj Tryz.prog f [u8 c] (bl (p c))) (hp2 : ∀ c,c.toNat > 126 → p c = false) (s : List UInt8) :
    zBH Tryz.prog 85 [.d (str s),.clo f []] [] (bl (allF p s)):=by
  have hbf:=hb;clear hb
  refine zBu Tryz.func85 rfl Tryz.ntmps85 Tryz.results85 rfl ?_
  intro wb St0
  repeat' first | apply en_n|apply zAH|apply zAB|apply zAF|apply w0|(apply zUF (hd:=rfl) (hro:=rfl);exact rfl;with_reducible exact ustr)|apply ay (hd:=rfl)|exact zAE rfl|exact zAC rfl|apply zAI
  refine zAr (α:=Nat) (fun i=>i ≤ s.length ∧ ∀ j,j < i → p (s.getD j 0) = true)
    (fun i=>[(0,.d (str s)),(1,.clo f []),(8,.ptr 0 0)]) (fun i=>[.iter ⟨s.toArray⟩ i]) (fun i=>s.length - i) 0 ⟨Nat.zero_le _,by omega⟩
      (zAO (zAA rfl (zAA rfl (zAA rfl zAa))) (zAD rfl rfl zAN) rfl rfl) ?_
  rintro i ⟨hi1,hi2⟩
  repeat' first | apply en_n|apply zAH|apply zAB|apply zAF|apply w0|(apply k0u (hd:=rfl);exact rfl;exact rfl)|exact zGg rfl rfl|(apply zUu (hd:=rfl) (hro:=rfl);exact rfl;exact rfl;(intro hb);rotate_left;(intro hb);rotate_right)|exact zBF rfl|(apply zNP;exact rfl;with_reducible exact si32;with_reducible exact uu8)|(apply zLa (hb:=hbf) (hc:=hp (s.getD i 0));exact rfl)|apply ay (hd:=rfl)|exact zAE rfl|exact zAC rfl|exact zEk rfl rfl|exact zBo rfl|exact zAi rfl rfl|exact zAh rfl rfl|exact zBP rfl rfl|exact w1 rfl rfl|(apply gD;exact rfl;exact rfl;(intro hb);rotate_left;(intro hb);rotate_right)|exact zAK rfl|exact zAQ rfl|(apply zCZ;exact rfl;(intro hb);rotate_left;(intro hb);rotate_right)|apply zAI|apply zAP|apply zAM|apply zAt|apply en_r|apply en_e|apply eb_n|apply eb_r|apply eb_e|apply zAJ|exact res1 rfl
  · rename_i h0
    have hlt : i < s.length:=by rw [zCq] at h0;exact h0
    exact zC4 (zP3 hlt (hp2 _ (zN5 hlt hb))).symm
  · rename_i h0
    have hlt : i < s.length:=by rw [zCq] at h0;exact h0
    obtain ⟨_,e,hl⟩:=zPn hlt hb
    refine zAX ?_ zAG
    show SV.d (D.val (.int .u8 (IntKind.u8.wrap (((Utf8.decode ⟨s.toArray⟩ i).1 : Nat) : Int)))) = _
    rw [e,zSP,show (((s.getD i 0).toNat : Nat) : Int) % 256 = ((s.getD i 0).toNat : Int) by omega]
  · rename_i h0 h1
    have hlt : i < s.length:=by rw [zCq] at h0;exact h0
    exact zC4 (zP3 hlt (by simpa using hb)).symm
  · rename_i h0 h1
    have hlt : i < s.length:=by rw [zCq] at h0;exact h0
    obtain ⟨e1,_,hl⟩:=zPn hlt h1
    refine ⟨i + 1,⟨by omega,fun j hj=>?_⟩,by omega,zAO (zAA rfl (zAA rfl (zAA rfl zAa))) (zAD rfl (by rw [e1]) zAN) rfl rfl⟩
    rcases Nat.lt_or_ge j i with h | h
    · exact hi2 j h
    · rw [show j = i by omega];simpa using hb
  · have hge : ¬ i < s.length:=by rw [zCq] at hb;exact hb
    exact zC4 (zUC fun j hj=>hi2 j (by omega)).symm
end Go.Proofs.YtblomnkamngnbaaGreatDoor
namespace Go.Proofs.YtblomnkamngnbaaGreatDoor
open Go.Sx
attribute [local irreducible] zAT Program.underlying Ylds zBA alex zBc zBO awp zAj zBX RCall zA2 zBH zBQ zA8 zBT zBZ zBd zBr
def btw (lo hi : Int) (c : UInt8) : Bool:=decide (lo ≤ isK c ∧ isK c ≤ hi)
theorem zIP (s : List UInt8) (a j : Nat) : (s.drop a).getD j 0 = s.getD (a + j) 0:=by
  rw [List.getD_eq_getElem?_getD,List.getD_eq_getElem?_getD,List.getElem?_drop]
theorem zKJ (s : List UInt8) (at_ : Nat) (lo hi : Int) (hs : s.length ≤ 9223372036854775807) (ha : at_ ≤ s.length) :
    zAj Tryz.prog 79 [str s,i64 (at_ : Int),i64 lo,i64 hi] (i64 ((at_ + zIg (btw lo hi) (s.drop at_) : Nat) : Int)):=by
  refine zAd Tryz.func79 rfl Tryz.ntmps79 Tryz.results79 rfl ?_
  intro wb St0
  repeat' first | apply en_n|apply zAH|apply zAB|apply zAF|apply w0|apply ay (hd:=rfl)|exact zAC rfl|apply zAI
  refine zAr (α:=Nat) (fun i=>at_ + i ≤ s.length ∧ ∀ j,j < i → btw lo hi ((s.drop at_).getD j 0) = true) (fun i=>[(0,.d (str s)),(1,.d (i64 ((at_ + i : Nat) : Int))),(2,.d (i64 lo)),(3,.d (i64 hi))]) (fun _=>[]) (fun i=>s.length - (at_ + i)) 0 ⟨by omega,by omega⟩
      (zAO (zAA rfl (zAA rfl (zAA rfl (zAA rfl zAa)))) zAN rfl rfl) ?_
  rintro i ⟨hi1,hi2⟩
  repeat' first | apply en_n|apply zAH|apply zAB|apply zAF|apply w0|(apply k1u (hd:=rfl);exact rfl;exact rfl)|(apply zDU;exact rfl;with_reducible exact ustr)|(apply zKD;exact rfl;exact rfl;with_reducible exact ustr;(first|assumption|omega))|(apply zAV (hb:=zTp) (hc:=zTk (s.getD (at_ + i) 0)))|apply ay (hd:=rfl)|exact zAE rfl|exact zAC rfl|exact zCQ rfl rfl|exact zG9 rfl rfl|exact zEO rfl rfl|exact zBC rfl rfl|exact zAi rfl rfl|exact zAh rfl rfl|exact w1 rfl rfl|(apply gD;exact rfl;exact rfl;(intro hb);rotate_left;(intro hb);rotate_right)|(apply zAz;exact rfl;(intro hb);rotate_left;(intro hb);rotate_right)|exact zAQ rfl|apply zAI|apply zAP|apply zAM|apply zAt|apply en_e|apply eb_n|apply eb_e|apply zAJ|exact res1 rfl|exact zAG|refine zAX rfl ?_
  · omega
  · rename_i h1 h2
    have hb : btw lo hi ((s.drop at_).getD i 0) = true:=by
      rw [zIP,btw,decide_eq_true_eq];exact ⟨h2,hb⟩
    refine ⟨i + 1,⟨by omega,fun j hj=>?_⟩,by omega,zAO (zAA rfl (Le_d rfl (by rw [Int.natCast_add,Int.natCast_add,Int.natCast_add,Int.add_assoc];rfl) (zAA rfl (zAA rfl zAa)))) zAN rfl rfl⟩
    rcases Nat.lt_or_ge j i with h | h
    · exact hi2 j h
    · rw [show j = i by omega];exact hb
  · rename_i h1 h2
    have hb : btw lo hi ((s.drop at_).getD i 0) = false:=by
      rw [zIP,btw,decide_eq_false_iff_not];exact fun h=>hb h.2
    rw [zHV _ _ i (by rw [List.length_drop];omega) hi2 (.inr hb)]
  · rename_i h1
    have hb : btw lo hi ((s.drop at_).getD i 0) = false:=by
      rw [zIP,btw,decide_eq_false_iff_not];exact fun h=>hb h.1
    rw [zHV _ _ i (by rw [List.length_drop];omega) hi2 (.inr hb)]
  · rw [zHV _ _ i (by rw [List.length_drop];omega) hi2 (.inl (by rw [List.length_drop];omega))]
end Go.Proofs.YtblomnkamngnbaaGreatDoor
namespace Go.Proofs.YtblomnkamngnbaaGreatDoor
open Go.Sx
attribute [local irreducible] zAT Program.underlying Ylds zBA alex zBc zBO awp zAj zBX RCall zA2 zBH zBQ zA8 zBT zBZ zBd zBr
def idxT (A : List (List UInt8)) (b : List UInt8) : Int:=if b ∈ A then ((A.takeWhile fun x=>decide (x ≠ b)).length : Int) else -1
theorem zRA {A : List (List UInt8)} {b : List UInt8} {i : Nat} (h0 : ∀ j,j < i → A[j]? ≠ some b) (h1 : A[i]? = some b) : idxT A b = i:=by
  have hm : b ∈ A:=List.mem_of_getElem? h1
  rw [idxT,if_pos hm]
  congr 1
  induction A generalizing i with
  | nil=>simp at h1
  | cons x r ih =>
    cases i with
    | zero=>simp at h1;simp [List.takeWhile,h1]
    | succ i =>
      have hx : x ≠ b:=by have:=h0 0 (by omega);simpa using this
      rw [List.takeWhile_cons,if_pos (by simpa using hx),List.length_cons]
      rw [ih (i:=i) (fun j hj=>by have:=h0 (j + 1) (by omega);simpa using this) (by simpa using h1) (List.mem_of_getElem? (by simpa using h1))]
theorem zKs {A : List (List UInt8)} {b : List UInt8} (h : b ∉ A) : idxT A b = -1:=if_neg h
theorem zQP (A : List (List UInt8)) (b : List UInt8) (hL : A.length ≤ 2000000) : zAj Tryz.prog 140 [strs A,str b] (i64 (idxT A b)):=by
  refine zAd Tryz.func140 rfl Tryz.ntmps140 Tryz.results140 rfl ?_
  intro wb St0
  repeat' first | apply en_n|apply zAH|apply zAB|apply zAF|apply w0|apply ay (hd:=rfl)|exact zAE rfl|exact zAC rfl|(apply zAl;exact rfl;(with_reducible exact zCy))|apply zAI
  refine zAr (α:=Nat) (fun i=>i ≤ A.length ∧ ∀ j,j < i → A[j]? ≠ some b) (fun i=>[(0,.d (strs A)),(1,.d (str b)),(7,.d (i64 (A.length : Int))),(8,.d (i64 (i : Int)))]) (fun _=>[]) (fun i=>A.length - i) 0 ⟨Nat.zero_le _,by omega⟩
      (zAO (zAA rfl (zAA rfl (Le_d rfl (by first | rfl | simp) (zAA rfl zAa)))) zAN rfl rfl) ?_
  rintro i ⟨hi1,hi2⟩
  repeat' first | apply en_n|apply zAH|apply zAB|apply zAF|apply w0|exact zGi rfl rfl|(apply aI (hd:=rfl);(first|exact zAk rfl|exact Co_bb rfl rfl rfl|exact Co_nn rfl);exact rfl;(with_reducible exact zBU);exact fun _=>rfl;rotate_left;intro v hv;rotate_right)|apply ay (hd:=rfl)|exact zAE rfl|exact zAC rfl|(apply zAg;exact rfl;(with_reducible exact zKM))|exact zCQ rfl rfl|exact zBC rfl rfl|(apply zAz;exact rfl;(intro hb);rotate_left;(intro hb);rotate_right)|apply zAI|apply zAP|apply zAM|apply zAt|apply en_r|apply en_e|apply eb_n|apply eb_r|apply eb_e|apply zAJ|exact res1 rfl
  · omega
  · subst hb;rw [zRA hi2 hv]
  · omega
  · refine ⟨i + 1,⟨by omega,fun j hj=>?_⟩,by omega,zAO (zAA rfl (zAA rfl (zAA rfl (zAA rfl zAa)))) zAN rfl rfl⟩
    rcases Nat.lt_or_ge j i with h1 | h1
    · exact hi2 j h1
    · rw [show j = i by omega];intro h2;exact hb (Option.some.inj (h2.symm.trans hv))
  · rw [zKs];intro h1
    obtain ⟨j,hj,h2⟩:=List.getElem_of_mem h1
    exact hi2 j (by omega) (by rw [List.getElem?_eq_getElem hj,h2])
theorem zHK (A : List (List UInt8)) (b : List UInt8) (hL : A.length ≤ 2000000) : zAj Tryz.prog 123 [strs A,str b] (bl (A.contains b)):=by
  refine zAd Tryz.func123 rfl Tryz.ntmps123 Tryz.results123 rfl ?_
  intro wb St0
  repeat' first | apply en_n|apply zAH|apply zAB|apply zAF|apply w0|(apply zAV (hb:=zRL) (hc:=zQP A b hL))|apply ay (hd:=rfl)|exact zAE rfl|exact zAC rfl|exact zEO rfl rfl|apply zAM|apply zAJ|exact res1 rfl|exact zAG|refine zAX rfl ?_
  refine zC4 ?_
  by_cases h : b ∈ A
  · rw [List.contains_iff_mem.2 h,idxT,if_pos h];exact decide_eq_true (by omega)
  · rw [show A.contains b = false by simpa using h,zKs h];rfl
theorem zQZ : zAj Tryz.prog 124 [] (strs kws):=by
  refine zAd Tryz.func124 rfl Tryz.ntmps124 Tryz.results124 rfl ?_
  intro wb St0
  repeat' first | apply en_n|apply zAH|apply zAB|apply zAF|apply w0|(apply zAV (hb:=zPP) (hc:=zQS))|apply ay (hd:=rfl)|exact zAC rfl|exact zAb rfl|apply zAM|apply zAJ|exact res1 rfl|exact zAG|refine zAX rfl ?_
  all_goals rfl
theorem zSL (s : List UInt8) : zAj Tryz.prog 87 [str s] (bl (zQ8 s)):=by
  refine zAd Tryz.func87 rfl Tryz.ntmps87 Tryz.results87 rfl ?_
  intro wb St0
  repeat' first | apply en_n|apply zAH|apply zAB|apply zAF|apply w0|(apply zAV (hb:=zRB) (hc:=zQZ))|(apply zAV (hb:=zFy) (hc:=zHK kws s (by decide)))|apply ay (hd:=rfl)|exact zAE rfl|exact zAC rfl|apply zAM|apply zAJ|exact res1 rfl|exact zAG|refine zAX rfl ?_
  all_goals rfl
theorem zNT {η : List Ob} {σ : Sl} : ∀ L : List (List UInt8),CoL η σ (L.map fun l=>Operand.const (.string ⟨l.toArray⟩)) (L.map str)
  | []=>zAG
  | _ :: r=>zAX rfl (zNT r)
theorem zOl : zAj Tryz.prog 120 [] (strs kws):=by
  refine zAd Tryz.func120 rfl Tryz.ntmps120 Tryz.results120 rfl ?_
  intro wb St0
  repeat' first | apply en_n|apply zAH|apply zAB|apply zAF|apply w0|(refine zTG (sz:=1) (ds:=kws.map str) (xs:=kws.map fun l=>Operand.const (.string ⟨l.toArray⟩)) zBz zBU zDe rfl (by decide) rfl rfl (zNT kws) (by decide) rfl)|apply ay (hd:=rfl)|exact zAC rfl|exact zAb rfl|apply zAM|apply zAJ|exact res1 rfl
  all_goals rfl
theorem zSb (s : List UInt8) : zAj Tryz.prog 80 [str s] (bl (zQ8 s)):=by
  refine zAd Tryz.func80 rfl Tryz.ntmps80 Tryz.results80 rfl ?_
  intro wb St0
  repeat' first | apply en_n|apply zAH|apply zAB|apply zAF|apply w0|(apply zAV (hb:=zPJ) (hc:=zOl))|apply ay (hd:=rfl)|exact zAC rfl|apply zAI|exact zAG
  refine zAr (α:=Nat) (fun i=>i ≤ kws.length ∧ ∀ j,j < i → kws[j]? ≠ some s) (fun i=>[(0,.d (str s)),(3,.d (strs kws)),(4,.d (i64 (i : Int)))]) (fun _=>[]) (fun i=>kws.length - i) 0 ⟨Nat.zero_le _,by omega⟩
      (zAO (zAA rfl (zAA rfl (zAA rfl zAa))) zAN rfl rfl) ?_
  rintro i ⟨hi1,hi2⟩
  have hk : kws.length = 25:=rfl
  repeat' first | apply en_n|apply zAH|apply zAB|apply zAF|apply w0|exact zGi rfl rfl|(apply aI (hd:=rfl);(first|exact zAk rfl|exact Co_bb rfl rfl rfl|exact Co_nn rfl);exact rfl;(with_reducible exact zBU);exact fun _=>rfl;rotate_left;intro v hv;rotate_right)|apply ay (hd:=rfl)|exact zAE rfl|exact zAC rfl|(apply zAg;exact rfl;(with_reducible exact zKM))|(apply zAl;exact rfl;(with_reducible exact zCy))|exact zCQ rfl rfl|exact zBC rfl rfl|(apply zAz;exact rfl;(intro hb);rotate_left;(intro hb);rotate_right)|apply zAI|apply zAP|apply zAM|apply zAt|apply en_r|apply en_e|apply eb_n|apply eb_r|apply eb_e|apply zAJ|exact res1 rfl
  · omega
  · subst hb;exact zC4 (List.contains_iff_mem.2 (List.mem_of_getElem? hv)).symm
  · omega
  · refine ⟨i + 1,⟨by omega,fun j hj=>?_⟩,by omega,zAO (zAA rfl (zAA rfl (zAA rfl zAa))) zAN rfl rfl⟩
    rcases Nat.lt_or_ge j i with h1 | h1
    · exact hi2 j h1
    · rw [show j = i by omega];intro h2;exact hb (Option.some.inj (hv.symm.trans h2))
  · refine zC4 ?_
    symm;rw [zQ8,← Bool.not_eq_true];intro h1
    obtain ⟨j,hj,h2⟩:=List.getElem_of_mem (List.contains_iff_mem.1 h1)
    exact hi2 j (by omega) (by rw [List.getElem?_eq_getElem hj,h2])
end Go.Proofs.YtblomnkamngnbaaGreatDoor
namespace Go.Proofs.YtblomnkamngnbaaGreatDoor
open Go.Sx
attribute [local irreducible] zAT Program.underlying Ylds zBA alex zBc zBO awp zAj zBX RCall zBQ zA8 zBT zBZ zBd
theorem zM0 {a b : Int} (h : a = b) : D.val (.int .i64 a) = i64 b:=by rw [h]
theorem tw1 : (2 : Int) ^ min (Int.toNat 1) IntKind.u64.bits = 2:=by decide
theorem tw2 : (2 : Int) ^ min (Int.toNat 1) IntKind.i64.bits = 2:=by decide
theorem zMS (n : Int) : zAj Tryz.prog 90 [i64 n] (i64 (W n)):=by
  refine zAd Tryz.func90 rfl Tryz.ntmps90 Tryz.results90 rfl ?_
  intro wb St0
  repeat' first | apply en_n|apply zAH|apply zAB|apply zAF|apply w0|(apply zNP;exact rfl;(first|with_reducible exact si64|with_reducible exact su64|with_reducible exact su8|with_reducible exact si32);(first|with_reducible exact ui64|with_reducible exact uu64|with_reducible exact uu8|with_reducible exact ui32))|(apply zU0;exact rfl;exact rfl;exact (by decide))|(apply zUz;exact rfl;exact rfl;exact (by decide))|apply ay (hd:=rfl)|exact zAE rfl|exact zAC rfl|apply zAM|apply zAJ|exact res1 rfl
  refine zM0 ?_
  rw [tw1,tw2,Int.fdiv_eq_ediv_of_nonneg _ (by decide),zF4,zF4,zF5,W]
  omega
theorem zS7 (n : Int) (h : 0 ≤ n) : zAj Tryz.prog 121 [u64 n] (i64 (W n)):=by
  refine zAd Tryz.func121 rfl Tryz.ntmps121 Tryz.results121 rfl ?_
  intro wb St0
  have e : n.tmod 9223372036854775808 = n % 9223372036854775808:=Int.tmod_eq_emod_of_nonneg h
  repeat' first | apply en_n|apply zAH|apply zAB|apply zAF|apply w0|(apply zNP;exact rfl;(first|with_reducible exact si64|with_reducible exact su64|with_reducible exact su8|with_reducible exact si32);(first|with_reducible exact ui64|with_reducible exact uu64|with_reducible exact uu8|with_reducible exact ui32))|(apply zSG (k:=.u64);exact rfl;exact rfl)|(apply zSG (k:=.i64);exact rfl;exact rfl)|(apply zMH;exact rfl;exact rfl;exact (by decide))|apply ay (hd:=rfl)|exact zAE rfl|exact zAC rfl|exact zEO rfl rfl|(apply zAz;exact rfl;(intro hb);rotate_left;(intro hb);rotate_right)|apply zAP|apply zAM|apply en_r|apply zAJ|exact res1 rfl
  · refine zM0 ?_
    rw [e] at hb ⊢
    rw [zF4,zF5,zF5,W]
    omega
  · refine zM0 ?_
    rw [e] at hb ⊢
    rw [zF5,W]
    omega
theorem zMf (n : Int) : zAj Tryz.prog 81 [i64 n] (i64 (W n)):=by
  refine zAd Tryz.func81 rfl Tryz.ntmps81 Tryz.results81 rfl ?_
  intro wb St0
  repeat' first | apply en_n|apply zAH|apply zAB|apply zAF|apply w0|(apply zNP;exact rfl;(first|with_reducible exact si64|with_reducible exact su64|with_reducible exact su8|with_reducible exact si32);(first|with_reducible exact ui64|with_reducible exact uu64|with_reducible exact uu8|with_reducible exact ui32))|(refine zAV zSl (zS7 _ (by rw [zF4];omega)) (zAX rfl zAG))|apply ay (hd:=rfl)|exact zAE rfl|exact zAC rfl|apply zAM|apply zAJ|exact res1 rfl
  refine zM0 ?_
  rw [zF4,W,W]
  omega
end Go.Proofs.YtblomnkamngnbaaGreatDoor
namespace Go.Proofs.YtblomnkamngnbaaGreatDoor
open Go.Sx
attribute [local irreducible] zAT Program.underlying Ylds zBA alex zBc zBO awp zAj zBX RCall zBQ zA8 zBT zBZ zBd
end Go.Proofs.YtblomnkamngnbaaGreatDoor
namespace Go.Proofs.YtblomnkamngnbaaGreatDoor
open Go.Sx
end Go.Proofs.YtblomnkamngnbaaGreatDoor
namespace Go.Proofs.YtblomnkamngnbaaGreatDoor
open Go.Sx
attribute [local irreducible] zAT Program.underlying Ylds zBA alex zBc zBO awp zAj zBX RCall zBQ zA8 zBT zBZ zBd
end Go.Proofs.YtblomnkamngnbaaGreatDoor
namespace Go.Proofs.YtblomnkamngnbaaGreatDoor
open Go.Sx
attribute [local irreducible] zAT Program.underlying Ylds zBA alex zBc zBO awp zAj zBX RCall zBQ zA8 zBT zBZ zBd
end Go.Proofs.YtblomnkamngnbaaGreatDoor
namespace Go.Proofs.YtblomnkamngnbaaGreatDoor
open Go.Sx
attribute [local irreducible] zAT Program.underlying Ylds zBA alex zBc zBO awp zAj zBX RCall zA2 zBH zBQ zA8 zBT zBZ zBd zBr
def zKj (p : UInt8 → Bool) (s : List UInt8) : Bool:=allF zEp s && p (s.getD 0 0) && !isKey s
def zDY (t : Tk) : Bool :=
  if t.pos < 0 then false
  else if t.kind = 1 then decide (t.num = 0) && zKj zEM t.text
  else if t.kind = 2 then decide (t.num = 0) && zKj zEN t.text
  else if t.kind = 3 then decide (t.text = []) && decide (W t.num = t.num)
  else if t.kind = 4 then decide (t.num = 0) && decide (t.text.length ≤ 200)
  else if t.kind = 5 then decide (t.num = 0) && allF zDg t.text && !isKey t.text
  else if t.kind = 6 then decide (t.num = 0) && zQ8 t.text
  else false
theorem zPC (c : UInt8) (h : c.toNat > 126) : zEp c = false:=by
  simp only [zEp,zEM,zEN,zFv,zTW,← Bool.decide_or,show ((95 : UInt8).toNat : Int) = 95 from rfl,show ((39 : UInt8).toNat : Int) = 39 from rfl]
  rw [decide_eq_false_iff_not];omega
theorem zQf (c : UInt8) (h : c.toNat > 126) : zDg c = false:=by
  refine zKQ fun j hj e=>?_
  subst e
  have : ∀ k,k < 16 → (signL.getD k 0).toNat ≤ 126:=by decide
  have:=this j hj
  omega
theorem zRb {p : UInt8 → Bool} {s : List UInt8} (h : allF p s = true) : 0 < s.length:=by
  cases s with
  | nil=>simp [allF] at h
  | cons=>simp
abbrev Tk.cells (t : Tk) : List SV:=[.d (i64 t.kind),.d (str t.text),.d (i64 t.num),.d (i64 t.pos)]
theorem zLc (t : Tk) (f : FuncId) (p : UInt8 → Bool) (hb : zAT Tryz.prog f = true) (hp : ∀ c,zAj Tryz.prog f [u8 c] (bl (p c))) :
    zBH Tryz.prog 84 [.clo f [],.ptr 0 0] [.box t.cells] (bl (zKj p t.text)):=by
  have hbf:=hb;clear hb
  refine zBu Tryz.func84 rfl Tryz.ntmps84 Tryz.results84 rfl ?_
  intro wb St0
  repeat' first | apply en_n|apply zAH|apply zAB|apply zAF|apply w0|(apply k1u (hd:=rfl);exact rfl;exact rfl)|exact zBF rfl|(apply zLa (hb:=hbf) (hc:=hp (t.text.getD 0 0));exact rfl)|(refine zBB [] [] rfl rfl zR4 (zSD _ zEp zRJ zQ9 zPC t.text) rfl ?_ rfl (by decide) rfl rfl rfl rfl;(repeat (refine zAL rfl ?_));exact zAS)|(apply zAV (hb:=zR5) (hc:=zSL t.text))|apply ay (hd:=rfl)|exact zAE rfl|exact zAC rfl|exact zBo rfl|exact zAi rfl rfl|exact zAh rfl rfl|(apply zAR;exact rfl;(with_reducible exact fo_1))|(apply zAU;exact rfl;(with_reducible exact zKM);exact rfl;exact rfl)|exact w1 rfl rfl|(apply g1;exact rfl;exact rfl;(intro hb);rotate_left;(intro hb);rotate_right)|apply zAM|apply zAJ|exact res1 rfl|exact zAG|refine zAX rfl ?_
  · have:=zRb hb
    exact zKD (i:=0) rfl rfl (by with_reducible exact ustr) ⟨by omega,by omega⟩
  all_goals exact zC4 (by simp only [zKj,*];first | rfl | simp)
set_option maxHeartbeats 4000000 in
theorem zHk (t : Tk) : zAj Tryz.prog 48 [t.av] (bl (zDY t)):=by
  refine zAd Tryz.func48 rfl Tryz.ntmps48 Tryz.results48 rfl ?_
  intro wb St0
  repeat' first | apply en_n|apply zAH|apply zAB|apply zAF|apply w0|(apply kU (hd:=rfl);exact rfl;exact rfl)|(apply k1u (hd:=rfl);exact rfl;exact rfl)|(apply k0u (hd:=rfl);exact rfl;exact rfl)|(apply zDU;exact rfl;with_reducible exact ustr)|exact zGg rfl rfl|(refine zBB [0] [0] rfl rfl zK2 (zLc t _ zEM zM4 zMb) rfl ?_ rfl (by decide) rfl rfl rfl rfl;(repeat (refine zAL rfl ?_));exact zAS)|(refine zBB [0] [0] rfl rfl zK2 (zLc t _ zEN zM8 zNC) rfl ?_ rfl (by decide) rfl rfl rfl rfl;(repeat (refine zAL rfl ?_));exact zAS)|(refine zBB [] [] rfl rfl zR4 (zSD _ zDg zSj zSZ zQf t.text) rfl ?_ rfl (by decide) rfl rfl rfl rfl;(repeat (refine zAL rfl ?_));exact zAS)|(apply zAV (hb:=zR5) (hc:=zSL t.text))|(refine zAV zM3 (zMS t.num) (zAX rfl zAG))|(apply aBox (hd:=rfl) (hro:=rfl);exact rfl;exact rfl)|apply ay (hd:=rfl)|exact zAE rfl|exact zAC rfl|exact zCQ rfl rfl|exact zG9 rfl rfl|exact zCz rfl rfl|exact zD6 rfl rfl|exact zBo rfl|exact zAi rfl rfl|exact zAh rfl rfl|exact zBF rfl|exact zCp rfl|(apply zAR;exact rfl;(with_reducible first|exact fo_0|exact fo_1|exact fo_2|exact fo_3))|(apply zAU;exact rfl;(with_reducible first|exact zKM|exact zRt|exact zOW|exact zRu);exact rfl;exact rfl)|exact zF3 rfl|exact w1 rfl rfl|(apply gD;exact rfl;exact rfl;(intro hb);rotate_left;(intro hb);rotate_right)|(apply g1;exact rfl;exact rfl;(intro hb);rotate_left;(intro hb);rotate_right)|(apply zAz;exact rfl;(intro hb);rotate_left;(intro hb);rotate_right)|exact zAK rfl|exact zAQ rfl|apply zAI|apply zAP|apply zAM|refine zA6 (by kernel_rfl) (by kernel_rfl) ?_|apply en_r|apply eb_n|apply eb_r|apply zAJ|exact res1 rfl|exact zAG|refine zAX rfl ?_
  all_goals exact zC4 (by simp_all [zDY] <;> (rw [show decide (t.pos < 0) = false from decide_eq_false (by omega),Bool.not_false,Bool.true_and,decide_eq_decide];omega))
end Go.Proofs.YtblomnkamngnbaaGreatDoor
namespace Go.Proofs.YtblomnkamngnbaaGreatDoor
open Go.Sx Go.RowKit
attribute [local irreducible] Ylds zBA alex zBc zBO awp zAj zBX RCall zA2 zBH zBQ zA8 zBT zBZ zBd
theorem zEo (L : List Nd) (at_ : Int) (hL : L.length ≤ 2000000) : zAj Tryz.prog 27 [zAc L,i64 at_] (zBj (zBV L at_)):=by
  refine zAd Tryz.func27 rfl Tryz.ntmps27 Tryz.results27 rfl ?_
  intro wb St0
  repeat' first | apply en_n|apply zAH|apply zAB|apply zAF|apply w0|(apply zMG (hd:=rfl) (hro:=rfl);exact zCw;exact zA7;exact zIk;exact rfl)|(apply zAV (hb:=zIH) (hc:=rEnd L _ hL))|apply ay (hd:=rfl)|exact zAE rfl|exact zAC rfl|exact zCQ rfl rfl|exact zBC rfl rfl|exact zAb rfl|exact zAw rfl|exact zAm rfl|(apply zAz;exact rfl;(intro hb);rotate_left;(intro hb);rotate_right)|apply zAI|apply zAP|apply zAM|apply en_r|apply zAJ|(apply zGq;exact rfl;exact rfl;(first|exact rfl|(simp;done)))|exact zAG|refine zAX rfl ?_
  · rw [zBV,if_pos hb];rfl
  · have:=zEv L at_;omega
  · obtain ⟨k,x,hak,hx,h0,h1,he,hn,hf⟩:=zKn hb
    subst hak
    refine zAr (α:=Nat) (fun i=>i ≤ x.kids.toNat ∧ 0 ≤ seqE L ((k : Int) + 1) i) (fun i=>[(0,.d (zAc L)),(1,.d (i64 (k : Int))),(5,.buf 0 (((List.range i).map (seqE L ((k : Int) + 1))).map ival).length),(6,.d (i64 (seqE L ((k : Int) + 1) i))),(7,.d (i64 (i : Int)))])
      (fun i=>[.buf false 3 1 (((List.range i).map (seqE L ((k : Int) + 1))).map ival)]) (fun i=>x.kids.toNat - i) 0 ⟨Nat.zero_le _,by simp only [seqE];omega⟩
      (zAO (zAA rfl (zAA rfl (zAA rfl (zAA rfl (zAA rfl zAa))))) (zAD rfl rfl zAN) rfl rfl) ?_
    rintro i ⟨hi1,hi2⟩
    have hg:=zHt hi2
    have hk:=(List.getElem?_eq_some_iff.1 hx).1
    repeat' first | apply en_n|apply zAH|apply zAB|apply zAF|apply w0|(apply zAV (hb:=zIH) (hc:=rEnd L _ hL))|(apply aJ (hd:=rfl);(first|exact zAk rfl|exact Co_bb rfl rfl rfl|exact Co_nn rfl);exact rfl;(with_reducible exact zAW);assumption;omega;exact fun _=>rfl)|(apply aApp (hd:=rfl) (hro:=rfl);exact rfl;exact rfl;(first|exact zAk rfl|exact Co_bb rfl rfl rfl|exact Co_nn rfl);(first|exact rfl|(simp;done));exact rfl;(with_reducible exact zCw);(with_reducible exact zA7);(with_reducible exact zIl);(with_reducible exact zG4);(first|exact zCC (fun _=>rfl)|exact zCA rfl))|apply ay (hd:=rfl)|exact zAE rfl|exact zAC rfl|(apply zAy;exact rfl;(with_reducible exact fn_3))|(apply zAg;exact rfl;(with_reducible exact zAs))|exact zCQ rfl rfl|exact zBC rfl rfl|exact zAw rfl|exact zAm rfl|(apply zB8;(with_reducible exact zCw);(with_reducible exact zA7);(with_reducible exact zIk);exact rfl;exact rfl;(first|exact zAX rfl zAG|exact zCx rfl rfl rfl zAG|exact zDB rfl zAG);exact rfl)|(apply zAz;exact rfl;(intro hb);rotate_left;(intro hb);rotate_right)|apply zAI|apply zAP|apply zAM|apply zAt|apply en_e|apply eb_n|apply eb_e|apply zAJ|(apply zGq;exact rfl;exact rfl;(first|exact rfl|(simp;done)))|exact zAG|refine zAX rfl ?_
    · simp only [List.length_map,List.length_range,List.length_singleton];omega
    · omega
    · have h3 : 0 ≤ seqE L ((k : Int) + 1) (i + 1):=by
        rcases Int.lt_or_le (seqE L ((k : Int) + 1) (i + 1)) 0 with h4 | h4
        · have:=zGC (j:=x.kids.toNat) h4 (by omega);omega
        · exact h4
      refine ⟨i + 1,⟨by omega,h3⟩,by omega,?_⟩
      refine zAO (zAA rfl (zAA rfl (zBq rfl ?_ (Le_d rfl ?_ (zAA rfl zAa))))) (zAu rfl rfl (zKm _ i).symm zAN) rfl rfl
      · simp only [List.length_map,List.length_range,List.length_singleton]
      · rw [zDy hi2]
    · rw [hf,show i = x.kids.toNat by omega];rfl
def subF (L : List Nd) (a : Int) : List Nd:=if endF L a < 0 then [] else (L.take (endF L a).toNat).drop a.toNat
def subE (L : List Nd) (a : Int) : Int:=if endF L a < 0 then 20 else 0
theorem zRW {α : Type} {ys : List α} {n : Nat} {z : α} (h : ys.length = n) : ys.take (List.replicate n z).length ++ (List.replicate n z).drop ys.length = ys:=by
  subst h;simp
theorem zUT (L : List Nd) (at_ : Int) (hL : L.length ≤ 2000000) : zAj Tryz.prog 99 [zAc L,i64 at_] (.tup [zAc (subF L at_),i64 (subE L at_)]):=by
  refine zAd Tryz.func99 rfl Tryz.ntmps99 Tryz.results99 rfl ?_
  intro wb St0
  have hbd:=zEv L at_
  repeat' first | apply en_n|apply zAH|apply zAB|apply zAF|apply w0|(refine zF2 22 0 rfl rfl rfl ?_)|(apply zAV (hb:=zFl) (hc:=zFq L _ hL))|(apply zUv (hd:=rfl) (hro:=rfl);exact rfl;exact rfl;(with_reducible exact zBb);(with_reducible exact zAW);(with_reducible exact zSO);exact rfl;exact rfl;(with_reducible exact zDL))|(refine zUx (sz:=4) (hro:=rfl) (hd:=(rfl : Nat.blt _ _ = true)) rfl rfl (List.length_replicate ..).symm (zAk rfl) ?_ (zCC (fun _=>rfl)) ?_;(with_reducible exact zAW))|apply ay (hd:=rfl)|exact zAE rfl|exact zAC rfl|exact zCQ rfl rfl|exact zIj rfl rfl|exact zAb rfl|exact zAw rfl|exact zAm rfl|(apply Y_sl;(first|exact zAk rfl|exact Co_bb rfl rfl rfl|exact Co_nn rfl);(with_reducible exact zAW);exact rfl;exact rfl;exact fun _=>rfl)|(apply zAz;exact rfl;(intro hb);rotate_left;(intro hb);rotate_right)|apply zAP|apply zAM|apply en_r|apply zAJ|exact zLq rfl rfl|exact zAG|refine zAX rfl ?_
  · rw [subF,if_pos hb];rfl
  · rw [subE,if_pos hb]
  · omega
  · omega
  · omega
  · have hy : ((L.take (endF L at_).toNat).drop at_.toNat).length = (endF L at_ - at_).toNat:=by rw [List.length_drop,List.length_take];omega
    have hc:=zRW (ys:=((L.take (endF L at_).toNat).drop at_.toNat).map Nd.av) (z:=Nd.av ⟨0,[],0,0⟩) (n:=(endF L at_ - at_).toNat) (by rw [List.length_map,hy])
    refine zSa rfl rfl ?_ rfl ?_ ?_
    · exact ((congrArg List.length hc).trans (by rw [List.length_map,hy])).symm
    · rw [subF,if_neg hb];exact congrArg D.slice hc
    · rw [subE,if_neg hb]
theorem zOo (L : List Nd) (at_ : Int) (hL : L.length ≤ 2000000) (h : ¬ endF L at_ < 0) : zAj Tryz.prog 43 [zAc L,i64 at_] (zAc (subF L at_)):=by
  refine zAd Tryz.func43 rfl Tryz.ntmps43 Tryz.results43 rfl ?_
  intro wb St0
  have hbd:=zEv L at_
  repeat' first | apply en_n|apply zAH|apply zAB|apply zAF|apply w0|(apply zMG (hd:=rfl) (hro:=rfl);exact zBb;exact zAW;exact zDM;exact rfl)|(apply zAV (hb:=zIH) (hc:=rEnd L _ hL))|(apply aApp (hd:=rfl) (hro:=rfl);exact rfl;exact rfl;(first|exact zAk rfl|exact Co_bb rfl rfl rfl|exact Co_nn rfl);(first|exact rfl|(simp;done));exact rfl;(with_reducible exact zBb);(with_reducible exact zAW);(with_reducible exact zEL);(with_reducible exact zDL);(first|exact zCC (fun _=>rfl)|exact zCA rfl))|apply ay (hd:=rfl)|exact zAE rfl|exact zAb rfl|exact zAm rfl|(apply Y_sl;(first|exact zAk rfl|exact Co_bb rfl rfl rfl|exact Co_nn rfl);(with_reducible exact zAW);exact rfl;exact rfl;exact fun _=>rfl)|apply zAM|apply zAJ|exact zAG|refine zAX rfl ?_
  · omega
  · simp only [List.length_map,List.length_drop,List.length_take];omega
  · refine zGq rfl rfl ?_ ?_
    · simp
    · rw [subF,if_neg h];rfl
end Go.Proofs.YtblomnkamngnbaaGreatDoor
namespace Go.Proofs.YtblomnkamngnbaaGreatDoor
open Go.Sx Go.RowKit
attribute [local irreducible] Ylds zBA alex zBc zBO awp zAj zBX RCall zA2 zBH zBQ zA8 zBT zBZ zBd
def zO4 (n : Nd) (KK : List (List Nd)) : List Nd:={ n with kids:=KK.length } :: KK.flatten
def mkC (n : Nd) (KK : List (List Nd)) (i : Nat) : List Nd:={ n with kids:=KK.length } :: (KK.take i).flatten
theorem zJk {n : Nd} {KK : List (List Nd)} {i : Nat} {v : List Nd} (hv : KK[i]? = some v) : (mkC n KK (i + 1)).map Nd.av = (mkC n KK i).map Nd.av ++ v.map Nd.av:=by
  simp [mkC,List.take_add_one,hv]
theorem zSg (n : Nd) (KK : List (List Nd)) (i : Nat) : (mkC n KK i).length ≤ KK.flatten.length + 1:=by
  have : KK.flatten = (KK.take i).flatten ++ (KK.drop i).flatten:=by rw [← List.flatten_append,List.take_append_drop]
  rw [this];simp only [mkC,List.length_cons,List.length_append];omega
theorem zQK (n : Nd) (KK : List (List Nd)) (h1 : KK.length ≤ 2000000) (h2 : KK.flatten.length ≤ 2000000) : zAj Tryz.prog 16 [n.av,zFk KK] (zAc (zO4 n KK)):=by
  refine zAd Tryz.func16 rfl Tryz.ntmps16 Tryz.results16 rfl ?_
  intro wb St0
  repeat' first | apply en_n|apply zAH|apply zAB|apply zAF|apply w0|(apply zUH (hd:=rfl) (hro:=rfl);exact zBb;exact zAW;exact zDM;exact rfl;exact rfl;exact zAX rfl zAG;exact rfl)|(apply aBox (hd:=rfl) (hro:=rfl);exact rfl;exact rfl)|apply ay (hd:=rfl)|exact zAE rfl|(apply zAl;exact rfl;(with_reducible exact zGZ))|exact zAb rfl|exact zAm rfl|(apply zAR;exact rfl;(with_reducible exact fn_3))|(apply zCn;exact rfl;(with_reducible exact zAY);exact rfl;exact rfl;exact rfl)|(refine w0' ?_)|(apply zAx;exact rfl;exact rfl;exact rfl;(with_reducible exact zAs);exact rfl;exact rfl;exact rfl;exact rfl)|apply zAI
  · refine zAr (α:=Nat) (fun i=>i ≤ KK.length) (fun i=>[(13,.d (zFk KK)),(14,.d (i64 (KK.length : Int))),(15,.d (i64 (i : Int))),(5,.buf 1 ((mkC n KK i).map Nd.av).length)])
      (fun i=>[.box [.d (.val (.int .i64 n.kind)),.d (.val (.string ⟨n.text.toArray⟩)),.d (.val (.int .i64 n.num)),.d (.val (.int .i64 KK.length))],.buf false 40 4 ((mkC n KK i).map Nd.av)]) (fun i=>KK.length - i) 0 (Nat.zero_le _)
      (zAO (zAA rfl (Le_d rfl rfl (zAA rfl (zBq rfl rfl zAa)))) (zAD rfl rfl (zAD rfl rfl zAN)) rfl rfl) ?_
    intro i hi
    repeat' first | apply en_n|apply zAH|apply zAB|apply zAF|apply w0|(apply aI (hd:=rfl);(first|exact zAk rfl|exact Co_bb rfl rfl rfl|exact Co_nn rfl);exact rfl;(with_reducible exact zCP);exact fun _=>rfl;rotate_left;intro v hv;rotate_right)|(apply aApp (hd:=rfl) (hro:=rfl);exact rfl;exact rfl;(first|exact zAk rfl|exact Co_bb rfl rfl rfl|exact Co_nn rfl);(first|exact rfl|(simp;done));exact rfl;(with_reducible exact zBb);(with_reducible exact zAW);(with_reducible exact zEL);(with_reducible exact zDL);(first|exact zCC (fun _=>rfl)|exact zCA rfl))|apply ay (hd:=rfl)|exact zAE rfl|exact zAC rfl|(apply zAg;exact rfl;(with_reducible exact zAn))|exact zCQ rfl rfl|exact zBC rfl rfl|exact zAw rfl|exact zAm rfl|(apply zAz;exact rfl;(intro hb);rotate_left;(intro hb);rotate_right)|apply zAI|apply zAP|apply zAM|apply zAt|apply en_e|apply eb_n|apply eb_e|apply zAJ|(apply zGq;exact rfl;exact rfl;(first|exact rfl|(simp;done)))
    · omega
    · have h3:=zSg n KK (i + 1)
      rw [← List.length_map (f:=Nd.av),zJk (i:=i) hv,List.length_append] at h3
      omega
    · omega
    · have hl : i < KK.length:=by omega
      refine ⟨i + 1,by omega,by omega,zAO (zAA rfl (zAA rfl (zAA rfl (zBq rfl ?_ zAa)))) (zAD rfl rfl (zAu rfl rfl (zJk (i:=i) hv) zAN)) rfl rfl⟩
      rw [zJk (i:=i) hv,List.length_append]
    · rw [zO4,show i = KK.length by omega,mkC,List.take_length];rfl
end Go.Proofs.YtblomnkamngnbaaGreatDoor
namespace Go.Proofs.YtblomnkamngnbaaGreatDoor
open Go.Sx Go.RowKit
theorem zFh : zBG Tryz.prog 128 = some 2:=by kernel_rfl
theorem zRT : (zB3 Tryz.prog 128).isSome = true:=by kernel_rfl
theorem zGY : zB3 Tryz.prog 128 = some 147:=by kernel_rfl
theorem fb_0 : zBM Tryz.prog 147 0 = some 0:=by kernel_rfl
theorem fb_1 : zBM Tryz.prog 147 1 = some 1:=by kernel_rfl
theorem fs_0 : zBM Tryz.prog 81 0 = some 0:=by kernel_rfl
theorem fs_1 : zBM Tryz.prog 81 1 = some 1:=by kernel_rfl
theorem zSV : zBK Tryz.prog 147 = some (true,2):=by kernel_rfl
theorem zE7 : zBK Tryz.prog 79 = some (false,1):=by kernel_rfl
theorem zMW : zBK Tryz.prog 123 = some (false,1):=by kernel_rfl
theorem zTX : zBK Tryz.prog 58 = some (false,1):=by kernel_rfl
theorem zSU : zBK Tryz.prog 32 = some (false,1):=by kernel_rfl
theorem zOM : zDG Tryz.prog 147 = some 2:=by kernel_rfl
theorem zNL : zDA Tryz.prog 128 = some 32:=by kernel_rfl
theorem zOJ : (zBm Tryz.prog 147).isSome = true:=by kernel_rfl
theorem zTP : zBm Tryz.prog 123 = some [.map none]:=by kernel_rfl
theorem zTS : zBm Tryz.prog 32 = some [.nilFunc]:=by kernel_rfl
theorem zHP : zDZ Tryz.prog 79 = some (3,23):=by kernel_rfl
theorem zHO : zDZ Tryz.prog 123 = some (2,3):=by kernel_rfl
theorem zE0 : Tryz.prog.underlying 2 = some (.int .i64):=by kernel_rfl
theorem zDj : zFr Tryz.prog 23 = some (.slice []):=by kernel_rfl
theorem zIm : zFr Tryz.prog 3 = some (.val (.int .i64 0)):=by kernel_rfl
theorem zQw : zCs Tryz.prog 81 = some [(0,1),(1,1)]:=by kernel_rfl
theorem zQX : zBm Tryz.prog 81 = some [.int .i64 0,.map none]:=by kernel_rfl
theorem zOu : zCs Tryz.prog 147 = some [(0,1),(1,1)]:=by kernel_rfl
theorem zOL : zBm Tryz.prog 147 = some [.int .i64 0,.slice none 0 0]:=by kernel_rfl
theorem zE9 : zCs Tryz.prog 40 = some [(0,1),(1,1),(2,1),(3,1)]:=by kernel_rfl
theorem zE1 : zCs Tryz.prog 68 = some [(0,1),(1,1),(2,1),(3,1)]:=by kernel_rfl
theorem zRH : zAT Tryz.prog 52 = true:=by kernel_rfl
theorem zCH : zAT Tryz.prog 31 = true:=by kernel_rfl
theorem zPQ : zAT Tryz.prog 51 = true:=by kernel_rfl
theorem zTv : zAT Tryz.prog 50 = true:=by kernel_rfl
theorem zTs : zAT Tryz.prog 93 = true:=by kernel_rfl
theorem zTt : zAT Tryz.prog 133 = true:=by kernel_rfl
theorem zPR : zAT Tryz.prog 134 = true:=by kernel_rfl
theorem zNB : zAT Tryz.prog 114 = true:=by kernel_rfl
theorem zIL : zAT Tryz.prog 71 = true:=by kernel_rfl
theorem zRM : zAT Tryz.prog 40 = true:=by kernel_rfl
theorem zJ0 : zAT Tryz.prog 55 = true:=by kernel_rfl
theorem zIF : zAT Tryz.prog 130 = true:=by kernel_rfl
theorem zL0 : zAT Tryz.prog 41 = true:=by kernel_rfl
theorem zJr : zAT Tryz.prog 74 = true:=by kernel_rfl
theorem zRG : zAT Tryz.prog 75 = true:=by kernel_rfl
theorem zRF : zAT Tryz.prog 76 = true:=by kernel_rfl
theorem zRE : zAT Tryz.prog 77 = true:=by kernel_rfl
theorem zSn : zAT Tryz.prog 18 = true:=by kernel_rfl
theorem zIM : zAT Tryz.prog 37 = true:=by kernel_rfl
theorem zNA : zAT Tryz.prog 109 = true:=by kernel_rfl
theorem zK1 : zAT Tryz.prog 110 = true:=by kernel_rfl
theorem zG1 : zAT Tryz.prog 62 = true:=by kernel_rfl
theorem zJs : zAT Tryz.prog 131 = true:=by kernel_rfl
theorem zJq : zAT Tryz.prog 107 = true:=by kernel_rfl
theorem zM1 : zAT Tryz.prog 108 = true:=by kernel_rfl
theorem zDJ : zAT Tryz.prog 157 = true:=by kernel_rfl
theorem zPL : zAT Tryz.prog 158 = true:=by kernel_rfl
theorem zM6 : zAT Tryz.prog 173 = true:=by kernel_rfl
def arrT : List UInt8:=[45,62]
def intT : List UInt8:=[105,110,116]
def texT : List UInt8:=[116,101,120,116]
def refT : List UInt8:=[114,101,102]
def zBh (n : Nd) : Bool :=
  if n.kind = 31 then decide (n.kids = 0 ∧ n.text = [] ∧ 0 ≤ n.num ∧ n.num ≤ 1048576)
  else if n.kind ≠ 32 ∨ n.num ≠ 0 then false
  else if n.text = arrT then decide (n.kids = 2)
  else if n.text = intT ∨ n.text = texT then decide (n.kids = 0)
  else if n.text = refT then decide (n.kids = 1)
  else zDY ⟨2,n.text,0,0⟩ && decide (n.kids ≤ 8)
def okT (L : List Nd) : Bool:=decide (L.length ≤ 4000) && zB7 L && L.all zBh
def ckT (L : List Nd) : Int:=if okT L then 0 else 90
structure Bd where
  var : Int
  ty : List Nd
def Bd.av (b : Bd) : D:=.agg [.val (.int .i64 b.var),zAc b.ty]
def binds (l : List Bd) : D:=.slice (l.map Bd.av)
def addV (acc : List Int) (n : Nd) : List Int:=if n.kind = 31 ∧ n.num ∉ acc then acc ++ [n.num] else acc
def zCU (L : List Nd) : List Int:=L.foldl addV []
def zC9 (L : List Nd) : List Int:=if okT L then zCU L else []
def can1 (vs : List Int) (n : Nd) : Nd:=if n.kind = 31 then { n with num:=idxF vs n.num } else n
def zIX (L : List Nd) : List Nd:=if okT L then L.map (can1 (zCU L)) else []
def app1 (l : List Bd) (n : Nd) : List Nd:=if n.kind = 31 then (match l.find? fun b=>b.var = n.num with | some b=>b.ty | none=>[n]) else [n]
def zFm (l : List Bd) (L : List Nd) : List Nd:=L.flatMap (app1 l)
def varN (n : Int) : List Nd:=[⟨31,[],n,0⟩]
end Go.Proofs.YtblomnkamngnbaaGreatDoor
namespace Go.Proofs.YtblomnkamngnbaaGreatDoor
open Go.Sx
attribute [local irreducible] zAT Program.underlying Ylds zBA alex zBc zBO awp zAj zBX RCall zA2 zBH zBQ zA8 zBT zBZ zBd zBr zBN
theorem zHp (n : Int) : zAj Tryz.prog 130 [i64 n] (zAc (varN n)):=by
  refine zAd Tryz.func130 rfl Tryz.ntmps130 Tryz.results130 rfl ?_
  intro wb St0
  repeat' first | apply en_n|apply zAH|apply zAB|apply zAF|apply w0|(apply zBE;exact zE9;exact zAp;exact PD_d rfl rfl (PD_d rfl rfl zBy);exact rfl)|apply ay (hd:=rfl)|exact zAE rfl|exact zAC rfl|exact zAb rfl|(apply zB8;(with_reducible exact zBb);(with_reducible exact zAW);(with_reducible exact zDM);exact rfl;exact rfl;(first|exact zAX rfl zAG|exact zCx rfl rfl rfl zAG|exact zDB rfl zAG);exact rfl)|apply zAM|apply zAJ|exact res1 rfl
  rfl
set_option maxHeartbeats 4000000 in
theorem zQm (n : Nd) : zAj Tryz.prog 52 [n.av] (bl (zBh n)):=by
  refine zAd Tryz.func52 rfl Tryz.ntmps52 Tryz.results52 rfl ?_
  intro wb St0
  repeat' first | apply en_n|apply zAH|apply zAB|apply zAF|apply w0|(apply k1u (hd:=rfl);exact rfl;exact rfl)|(apply k0u (hd:=rfl);exact rfl;exact rfl)|exact zGi rfl rfl|(apply zBE;exact zE1;exact zDf;exact PD_d rfl rfl (PD_d rfl rfl zBy);exact rfl)|(refine zAV zHb (zHk ⟨2,n.text,0,0⟩) (zAX rfl zAG))|(apply aBox (hd:=rfl) (hro:=rfl);exact rfl;exact rfl)|apply ay (hd:=rfl)|exact zAE rfl|exact zAC rfl|exact zG9 rfl rfl|exact zEO rfl rfl|exact zCz rfl rfl|exact zD6 rfl rfl|exact zAi rfl rfl|exact zAh rfl rfl|(apply zAR;exact rfl;(with_reducible first|exact fn_0|exact fn_1|exact fn_2|exact fn_3))|(apply zAU;exact rfl;(with_reducible first|exact zAs|exact zAe|exact zBI|exact zAv);exact rfl;exact rfl)|exact w1 rfl rfl|(apply gD;exact rfl;exact rfl;(intro hb);rotate_left;(intro hb);rotate_right)|(apply g1;exact rfl;exact rfl;(intro hb);rotate_left;(intro hb);rotate_right)|(apply zAz;exact rfl;(intro hb);rotate_left;(intro hb);rotate_right)|exact zAK rfl|apply zAI|apply zAP|apply zAM|apply en_r|apply eb_n|apply eb_r|apply zAJ|exact res1 rfl
  all_goals refine zC4 ?_
  all_goals first
    | (simp only [zBh,arrT,intT,texT,refT,*,if_true,if_false,ne_eq,not_true,not_false_iff,or_true,true_or,or_false,false_or,true_and,false_and,and_false,decide_false,decide_true,reduceCtorEq,not_not];done)
    | (simp_all [zBh,arrT,intT,texT,refT];done)
    | (simp_all [zBh];omega)
theorem zQV (n : Nd) : zAj Tryz.prog 51 [n.av] (bl (!rightN n)):=by
  refine zAd Tryz.func51 rfl Tryz.ntmps51 Tryz.results51 rfl ?_
  intro wb St0
  repeat' first | apply en_n|apply zAH|apply zAB|apply zAF|apply w0|(refine zAV zRH (zQm n) (zAX rfl zAG))|(apply aBox (hd:=rfl) (hro:=rfl);exact rfl;exact rfl)|apply ay (hd:=rfl)|exact zAC rfl|exact zBo rfl|(apply zCn;exact rfl;(with_reducible exact zAY);exact rfl;exact rfl;exact rfl)|apply zAM|apply zAJ|exact res1 rfl
  rfl
def idxP {α : Type} (p : α → Bool) (L : List α) : Int:=match L.findIdx? p with
  | some i=>i
  | none=>-1
theorem zFb {α : Type} {p : α → Bool} {L : List α} {i : Nat} {v : α} (h : ∀ (j : Nat) u,j < i → L[j]? = some u → p u = false) (hi : L[i]? = some v) (hv : p v = true) : idxP p L = i:=by
  have : L.findIdx? p = some i:=by
    rw [List.findIdx?_eq_some_iff_getElem]
    obtain ⟨h1,h2⟩:=List.getElem?_eq_some_iff.1 hi
    refine ⟨h1,by rw [h2];exact hv,fun j hj=>?_⟩
    rw [h j _ hj (List.getElem?_eq_getElem (by omega))];simp
  rw [idxP,this]
theorem zDa {α : Type} {p : α → Bool} {L : List α} (h : ∀ (j : Nat) u,L[j]? = some u → p u = false) : idxP p L = -1:=by
  have : L.findIdx? p = none:=by
    rw [List.findIdx?_eq_none_iff]
    intro x hx
    obtain ⟨j,hj⟩:=List.mem_iff_getElem?.1 hx
    exact h j x hj
  rw [idxP,this]
theorem zUV (f : FuncId) (p : Nd → Bool) (hbf : zAT Tryz.prog f = true) (hp : ∀ n,zAj Tryz.prog f [n.av] (bl (p n))) (L : List Nd) (hL : L.length ≤ 2000000) :
    zBH Tryz.prog 93 [.d (zAc L),.clo f []] [] (i64 (idxP p L)):=by
  refine zBu Tryz.func93 rfl Tryz.ntmps93 Tryz.results93 rfl ?_
  intro wb St0
  repeat' first | apply en_n|apply zAH|apply zAB|apply zAF|apply w0|apply ay (hd:=rfl)|exact zAE rfl|exact zAC rfl|(apply zAl;exact rfl;(with_reducible exact zA0))|apply zAI
  refine zAr (α:=Nat) (fun i=>i ≤ L.length ∧ ∀ j u,j < i → L[j]? = some u → p u = false) (fun i=>[(0,.d (zAc L)),(1,.clo f []),(7,.d (i64 (L.length : Int))),(8,.d (i64 (i : Int)))]) (fun _=>[]) (fun i=>L.length - i) 0 ⟨Nat.zero_le _,fun j u h=>by omega⟩
    (zAO (zAA rfl (zAA rfl (Le_d rfl rfl (zAA rfl zAa)))) zAN rfl rfl) ?_
  rintro i ⟨hi1,hi2⟩
  repeat' first | apply en_n|apply zAH|apply zAB|apply zAF|apply w0|exact zBF rfl|(apply zLa (hb:=hbf) (hc:=hp _);exact rfl)|(apply aI (hd:=rfl);(first|exact zAk rfl|exact Co_bb rfl rfl rfl|exact Co_nn rfl);exact rfl;(with_reducible exact zAW);exact fun _=>rfl;rotate_left;intro v hv;rotate_right)|apply ay (hd:=rfl)|exact zAE rfl|exact zAC rfl|(apply zAf;exact rfl;(with_reducible exact zAY);exact rfl)|exact zCQ rfl rfl|exact zBC rfl rfl|(apply zAz;exact rfl;(intro hb);rotate_left;(intro hb);rotate_right)|(apply zCZ;exact rfl;(intro hb);rotate_left;(intro hb);rotate_right)|apply zAI|apply zAP|apply zAM|apply zAt|apply en_r|apply en_e|apply eb_n|apply eb_r|apply eb_e|apply zAJ|exact res1 rfl|exact zAG|refine zAX rfl ?_
  · omega
  · exact zCl (zFb hi2 hv hb).symm
  · omega
  · refine ⟨i + 1,⟨by omega,fun j u hj hu=>?_⟩,by omega,zAO (zAA rfl (zAA rfl (zAA rfl (zAA rfl zAa)))) zAN rfl rfl⟩
    rcases Nat.lt_or_ge j i with h1 | h1
    · exact hi2 j u h1 hu
    · have hv' : L[i]? = some v:=hv
      rw [show j = i by omega,hv'] at hu;injection hu with hu;subst hu;exact hb
  · exact zCl (zDa fun j u hu=>hi2 j u (by have:=(List.getElem?_eq_some_iff.1 hu).1;omega) hu).symm
theorem zUb (f : FuncId) (p : Nd → Bool) (hbf : zAT Tryz.prog f = true) (hp : ∀ n,zAj Tryz.prog f [n.av] (bl (p n))) (L : List Nd) (hL : L.length ≤ 2000000) :
    zBH Tryz.prog 50 [.d (zAc L),.clo f []] [] (bl (L.any p)):=by
  refine zBu Tryz.func50 rfl Tryz.ntmps50 Tryz.results50 rfl ?_
  intro wb St0
  repeat' first | apply en_n|apply zAH|apply zAB|apply zAF|apply w0|exact zBF rfl|(refine zBB [] [] rfl rfl zTs (zUV f p hbf hp L hL) rfl ?_ rfl (by decide) rfl rfl rfl rfl;(repeat (refine zAL rfl ?_));exact zAS)|apply ay (hd:=rfl)|exact zAE rfl|exact zAC rfl|exact zEO rfl rfl|apply zAM|apply zAJ|exact res1 rfl
  refine zC4 ?_
  cases h : L.any p with
  | true =>
    obtain ⟨x,hx,hpx⟩:=List.any_eq_true.1 h
    have : idxP p L ≥ 0:=by
      unfold idxP;split
      · omega
      · rename_i hn;rw [List.findIdx?_eq_none_iff] at hn;rw [hn x hx] at hpx;cases hpx
    simpa using this
  | false =>
    rw [zDa fun j u hu=>by have:=List.any_eq_false.1 h u (List.mem_of_getElem? hu);simpa using this]
    rfl
theorem zFt {L : List Nd} (h : okT L = true) : L.length ≤ 4000 ∧ zB7 L = true ∧ L.all zBh = true:=by
  simpa [okT,and_assoc] using h
theorem zCO (L : List Nd) (hL : L.length ≤ 2000000) : zAj Tryz.prog 31 [zAc L] (i64 (ckT L)):=by
  refine zAd Tryz.func31 rfl Tryz.ntmps31 Tryz.results31 rfl ?_
  intro wb St0
  repeat' first | apply en_n|apply zAH|apply zAB|apply zAF|apply w0|(apply k0u (hd:=rfl);exact rfl;exact rfl)|(refine zAV zFd (zHj L hL) (zAX rfl zAG))|(refine zBB [] [] rfl rfl zTv (zUb _ (fun n=>!rightN n) zPQ zQV L hL) rfl ?_ rfl (by decide) rfl rfl rfl rfl;(repeat (refine zAL rfl ?_));exact zAS)|apply ay (hd:=rfl)|exact zAE rfl|exact zAC rfl|(apply zAl;exact rfl;(with_reducible exact zA0))|exact zEk rfl rfl|exact zBo rfl|exact zAi rfl rfl|exact zAh rfl rfl|exact w1 rfl rfl|(apply gD;exact rfl;exact rfl;(intro hb);rotate_left;(intro hb);rotate_right)|(apply g1;exact rfl;exact rfl;(intro hb);rotate_left;(intro hb);rotate_right)|exact zAK rfl|(apply zCZ;exact rfl;(intro hb);rotate_left;(intro hb);rotate_right)|apply zAP|apply zAM|apply en_r|apply zAJ|exact res1 rfl
  all_goals refine zCl ?_
  all_goals unfold ckT
  · rw [if_neg];intro h;have:=(zFt h).1;omega
  · rw [if_neg];intro h;have:=(zFt h).2.1;rw [this] at hb;cases hb
  · rw [if_neg];intro h;have:=(zFt h).2.2
    obtain ⟨x,hx,hpx⟩:=List.any_eq_true.1 hb
    rw [List.all_eq_true.1 this x hx] at hpx;cases hpx
  · rename_i h1 h2
    rw [if_pos]
    have h3 : L.all zBh = true:=List.all_eq_true.2 fun x hx=>by have:=List.any_eq_false.1 hb x hx;simpa using this
    have h4 : zB7 L = true:=by simpa using h2
    simp [okT,h3,h4];omega
theorem zRd (acc : List Int) (n : Nd) : (addV acc n).length ≤ acc.length + 1:=by unfold addV;split <;> simp
theorem zDq {L : List Nd} {i : Nat} {v : Nd} (h : L[i]? = some v) : zCU (L.take (i + 1)) = addV (zCU (L.take i)) v:=by
  unfold zCU
  rw [List.take_add_one,h,Option.toList_some,List.foldl_append];rfl
theorem zF6 : ∀ (L : List Nd) (acc : List Int),(L.foldl addV acc).length ≤ acc.length + L.length
  | [],acc=>by simp
  | n :: L,acc=>by
    have:=zF6 L (addV acc n)
    have:=zRd acc n
    simp only [List.foldl_cons,List.length_cons];omega
theorem zHT {L : List Nd} (i : Nat) (h : L.length ≤ 2000000) : (zCU (L.take i)).length ≤ 2000000:=by
  have:=zF6 (L.take i) []
  have h2 : (L.take i).length ≤ L.length:=by rw [List.length_take];omega
  simp only [List.length_nil] at this
  unfold zCU;omega
theorem zKF (L : List Nd) (hL : L.length ≤ 2000000) : zAj Tryz.prog 71 [zAc L] (zBj (zC9 L)):=by
  refine zAd Tryz.func71 rfl Tryz.ntmps71 Tryz.results71 rfl ?_
  intro wb St0
  repeat' first | apply en_n|apply zAH|apply zAB|apply zAF|apply w0|(refine zAV zCH (zCO L hL) (zAX rfl zAG))|apply ay (hd:=rfl)|exact zAE rfl|(apply zAl;exact rfl;(with_reducible exact zA0))|exact zD6 rfl rfl|exact zAb rfl|(apply zAz;exact rfl;(intro hb);rotate_left;(intro hb);rotate_right)|apply zAI|apply zAP|apply zAM|apply en_r|apply zAJ|exact zQn rfl
  · have : okT L = false:=by
      cases h : okT L with
      | false=>rfl
      | true=>exfalso;apply hb;simp [ckT,h]
    simp [zC9,this,zBj]
  · have hok : okT L = true:=by
      cases h : okT L with
      | true=>rfl
      | false=>exfalso;have:=hb;simp [ckT,h] at this
    have h4:=(zFt hok).1
    refine zCE 3 false 3 1 rfl rfl ?_
    refine zAr (α:=Nat) (fun i=>i ≤ L.length) (fun i=>[(0,.d (zAc L)),(3,.buf 0 ((zCU (L.take i)).map ival).length),(9,.d (zAc L)),(10,.d (i64 (L.length : Int))),(11,.d (i64 (i : Int)))]) (fun i=>[.buf false 3 1 ((zCU (L.take i)).map ival)]) (fun i=>L.length - i) 0 (Nat.zero_le _)
      (zAO (zAA rfl (zBq rfl rfl (zAA rfl (Le_d rfl rfl (zAA rfl zAa))))) (zAu rfl rfl rfl zAN) rfl rfl) ?_
    intro i hi
    repeat' first | apply en_n|apply zAH|apply zAB|apply zAF|apply w0|(apply k1u (hd:=rfl);exact rfl;exact rfl)|(refine zAV zFF (zMK (zCU (L.take i)) v.num (zHT i hL)) (zCx rfl rfl rfl (zAX rfl zAG)))|(apply aI (hd:=rfl);(first|exact zAk rfl|exact Co_bb rfl rfl rfl|exact Co_nn rfl);exact rfl;(with_reducible exact zAW);exact fun _=>rfl;rotate_left;intro v hv;rotate_right)|(apply aApp (hd:=rfl) (hro:=rfl);exact rfl;exact rfl;(first|exact zAk rfl|exact Co_bb rfl rfl rfl|exact Co_nn rfl);(first|exact rfl|(simp;done));exact rfl;(with_reducible exact zCw);(with_reducible exact zA7);(with_reducible exact zIl);(with_reducible exact zG4);(first|exact zCC (fun _=>rfl)|exact zCA rfl))|(apply zA4 (hd:=rfl) (hro:=rfl);(with_reducible exact zAp))|apply ay (hd:=rfl)|exact zAE rfl|(apply zAf;exact rfl;(with_reducible exact zAY);exact rfl)|exact zCQ rfl rfl|exact zCz rfl rfl|exact zBC rfl rfl|exact zBo rfl|exact zAi rfl rfl|exact zAh rfl rfl|exact zAw rfl|exact zAm rfl|(apply zAR;exact rfl;(with_reducible first|exact fn_0|exact fn_2))|(apply zAU;exact rfl;(with_reducible first|exact zAe|exact zBI);exact rfl;exact rfl)|(apply zB8;(with_reducible exact zCw);(with_reducible exact zA7);(with_reducible exact zIk);exact rfl;exact rfl;(first|exact zAX rfl zAG|exact zCx rfl rfl rfl zAG|exact zDB rfl zAG);exact rfl)|exact w1 rfl rfl|(apply gD;exact rfl;exact rfl;(intro hb);rotate_left;(intro hb);rotate_right)|(refine w0' ?_)|(apply zAx;exact rfl;exact rfl;exact rfl;(with_reducible exact zAY);exact rfl;exact rfl;exact rfl;exact rfl)|(apply zAz;exact rfl;(intro hb);rotate_left;(intro hb);rotate_right)|(apply zIb;exact rfl;(intro hb);rotate_left;(intro hb);rotate_right)|exact zAQ rfl|apply zAI|apply zAP|apply zAM|apply zAt|apply en_e|apply eb_n|apply eb_e|apply zAJ|(apply zGq;exact rfl;exact rfl;(first|exact rfl|(simp;done)))
    all_goals first | omega | skip
    · have:=zHT (L:=L) i hL;simp only [List.length_map,List.length_cons,List.length_nil];omega
    · have hk : v.kind = 31:=‹_›
      have e : zCU (L.take (i + 1)) = zCU (L.take i) ++ [v.num]:=by rw [zDq (i:=i) hv,addV,if_pos ⟨hk,hb⟩]
      exact ⟨i + 1,by omega,by omega,zAO (zAA rfl (zBq rfl (by rw [e];simp) (zAA rfl (zAA rfl (zAA rfl zAa))))) (zAu rfl rfl (by rw [e,List.map_append];rfl) zAN) rfl rfl⟩
    · have e : zCU (L.take (i + 1)) = zCU (L.take i):=by rw [zDq (i:=i) hv,addV,if_neg (fun h=>h.2 hb)]
      exact ⟨i + 1,by omega,by omega,zAO (zAA rfl (zBq rfl (by rw [e]) (zAA rfl (zAA rfl (zAA rfl zAa))))) (zAu rfl rfl (by rw [e]) zAN) rfl rfl⟩
    · have e : zCU (L.take (i + 1)) = zCU (L.take i):=by rw [zDq (i:=i) hv,addV,if_neg (fun h=>hb h.1)]
      exact ⟨i + 1,by omega,by omega,zAO (zAA rfl (zBq rfl (by rw [e]) (zAA rfl (zAA rfl (zAA rfl zAa))))) (zAu rfl rfl (by rw [e]) zAN) rfl rfl⟩
    · have e : L.take i = L:=List.take_of_length_le (by omega)
      rw [e,zC9,if_pos hok];rfl
end Go.Proofs.YtblomnkamngnbaaGreatDoor
namespace Go.Proofs.YtblomnkamngnbaaGreatDoor
open Go.Sx
attribute [local irreducible] zAT Program.underlying Ylds zBA alex zBc zBO awp zAj zBX RCall zA2 zBH zBQ zA8 zBT zBZ zBd zBr zBN
theorem zQU (L : List Nd) (hL : L.length ≤ 2000000) (hne : L ≠ []) : zBX Tryz.prog 55 [zAc L] L.length 40 4 (L.map Nd.av):=by
  refine zJ4 Tryz.func55 rfl Tryz.ntmps55 Tryz.results55 rfl (zCC fun _=>rfl) ?_
  intro wb St0
  repeat' first | (refine zP4 0 rfl ?_)|apply en_n|apply zAH|apply zAB|apply zAF|apply w0|(apply zNO;exact rfl;exact rfl;exact (by simpa using hne);with_reducible exact zA0)|(apply zMG (hd:=rfl) (hro:=rfl);exact zBb;exact zAW;exact zDM;exact rfl)|(apply aApp (hd:=rfl) (hro:=rfl);exact rfl;exact rfl;(first|exact zAk rfl|exact Co_bb rfl rfl rfl|exact Co_nn rfl);(first|exact rfl|(simp;done));exact rfl;(with_reducible exact zBb);(with_reducible exact zAW);(with_reducible exact zEL);(with_reducible exact zDL);(first|exact zCC (fun _=>rfl)|exact zCA rfl))|apply ay (hd:=rfl)|exact zAE rfl|exact zAb rfl|exact zAm rfl|exact zAQ rfl|apply zAP|apply zAM
  · rw [List.length_map];omega
  · refine zGX ⟨_,rfl,.inr ⟨0,?_,rfl⟩⟩
    show SV.buf 0 (0 + (L.map Nd.av).length) = .buf 0 L.length
    rw [List.length_map,Nat.zero_add]
def canI (vs : List Int) (L : List Nd) (i : Nat) : List Nd:=(L.take i).map (can1 vs) ++ L.drop i
theorem zNK (vs : List Int) (L : List Nd) (i : Nat) : (canI vs L i).length = L.length:=by simp [canI];omega
theorem zL9 {vs : List Int} {L : List Nd} {i : Nat} {v : Nd} (h : L[i]? = some v) : (canI vs L i)[i]? = some v ∧ canI vs L (i + 1) = (canI vs L i).set i (can1 vs v):=by
  have hil:=(List.getElem?_eq_some_iff.1 h).1
  have e1 : ((L.take i).map (can1 vs)).length = i:=by simp;omega
  unfold canI
  refine ⟨by rw [List.getElem?_append_right (by omega),e1,Nat.sub_self,List.getElem?_drop];exact h,?_⟩
  rw [List.set_append_right _ _ (by omega),e1,Nat.sub_self,List.take_add_one,h]
  have e2 : L.drop i = v :: L.drop (i + 1):=by rw [List.drop_eq_getElem_cons hil];congr 1;exact (List.getElem?_eq_some_iff.1 h).2
  rw [e2];simp
theorem zRq (L : List Nd) (hL : L.length ≤ 2000000) : zAj Tryz.prog 40 [zAc L] (zAc (zIX L)):=by
  refine zAd Tryz.func40 rfl Tryz.ntmps40 Tryz.results40 rfl ?_
  intro wb St0
  by_cases hok : okT L = true
  · obtain ⟨h4,hw,_⟩:=zFt hok
    have hne : L ≠ []:=by rintro rfl;simp [zB7] at hw
    have hck : ckT L = 0:=by simp [ckT,hok]
    have hvs : zC9 L = zCU L:=by simp [zC9,hok]
    have hvl : (zCU L).length ≤ 2000000:=by have:=zHT (L:=L) L.length hL;rwa [List.take_length] at this
    have hV:=zKF L hL
    have hC:=zCO L hL
    rw [hvs] at hV;rw [hck] at hC
    repeat' first | apply en_n|apply zAH|apply zAB|apply zAF|apply w0|(apply zBS;exact rfl;exact rfl;first|assumption|omega)|(refine zAV zIL hV (zAX rfl zAG))|(refine zAV zCH hC (zAX rfl zAG))|(refine zP8 zJ0 (zQU L hL hne) (zAX rfl zAG) rfl rfl ?_)|apply ay (hd:=rfl)|exact zAE rfl|exact zAC rfl|(apply zAl;exact rfl;(with_reducible exact zA0))|exact zAb rfl|exact zAm rfl|exact zAQ rfl|apply zAI|apply zAP
    refine zAr (α:=Nat) (fun i=>i ≤ L.length) (fun i=>[(3,.d (zBj (zCU L))),(4,.buf 0 L.length),(14,.d (zAc L)),(15,.d (i64 (L.length : Int))),(16,.d (i64 (i : Int)))]) (fun i=>[.buf true 40 4 ((canI (zCU L) L i).map Nd.av)]) (fun i=>L.length - i) 0 (Nat.zero_le _)
      (zAO (zAA rfl (zAA rfl (zAA rfl (Le_d rfl rfl (zAA rfl zAa))))) (zAu rfl rfl rfl zAN) rfl rfl) ?_
    intro i hi
    repeat' first | (refine zF2 33 0 rfl rfl rfl ?_)|apply en_n|apply zAH|apply zAB|apply zAF|apply w0|(refine zAV zGS (zNR (zCU L) v.num hvl) (zAX rfl (zAX rfl zAG)))|(refine zDc rfl rfl rfl zAW ?_ ?_)|(refine zOF rfl fn_2)|(refine zRe (cs:=v.av.flat) (hro:=rfl) rfl rfl rfl zBI rfl rfl ?_ rfl ?_)|(apply aI (hd:=rfl);(first|exact zAk rfl|exact Co_bb rfl rfl rfl|exact Co_nn rfl);exact rfl;(with_reducible exact zAW);exact fun _=>rfl;rotate_left;intro v hv;rotate_right)|(apply zA4 (hd:=rfl) (hro:=rfl);(with_reducible exact zAp))|apply ay (hd:=rfl)|exact zAE rfl|exact zAC rfl|(apply zAf;exact rfl;(with_reducible exact zAY);exact rfl)|exact zCQ rfl rfl|exact zCz rfl rfl|exact zBC rfl rfl|exact zAw rfl|exact zAm rfl|(apply zAR;exact rfl;(with_reducible first|exact fn_0|exact fn_2))|(apply zAU;exact rfl;(with_reducible first|exact zAe|exact zBI);exact rfl;exact rfl)|(refine w0' ?_)|(apply zAx;exact rfl;exact rfl;exact rfl;(with_reducible exact zAY);exact rfl;exact rfl;exact rfl;exact rfl)|(apply zAz;exact rfl;(intro hb);rotate_left;(intro hb);rotate_right)|apply zAI|apply zAP|apply zAM|apply zAt|apply en_e|apply eb_n|apply eb_e|apply zAJ
    all_goals first | omega | skip
    · rw [List.length_map,zNK];exact Nat.le_refl _
    · show ((canI (zCU L) L i).map Nd.av)[(i : Int).toNat]? = some (.agg v.av.flat)
      rw [Int.toNat_natCast,List.getElem?_map,(zL9 (vs:=zCU L) (i:=i) hv).1];rfl
    · refine ⟨i + 1,by omega,by omega,zAO (zAA rfl (zAA rfl (zAA rfl (zAA rfl (zAA rfl zAa))))) (zAu rfl rfl ?_ zAN) rfl rfl⟩
      have hk : v.kind = 31:=‹_›
      show _ = ((canI (zCU L) L i).map Nd.av).set (i : Int).toNat (.agg (v.av.flat.set (0 + 2) _))
      rw [(zL9 (vs:=zCU L) (i:=i) hv).2,Int.toNat_natCast,List.map_set,can1,if_pos hk];rfl
    · refine ⟨i + 1,by omega,by omega,zAO (zAA rfl (zAA rfl (zAA rfl (zAA rfl (zAA rfl zAa))))) (zAu rfl rfl ?_ zAN) rfl rfl⟩
      have hk : ¬ v.kind = 31:=‹_›
      have hi':=zL9 (vs:=zCU L) (i:=i) hv
      rw [hi'.2,can1,if_neg hk]
      congr 1
      refine List.ext_getElem? fun j=>?_
      rw [List.getElem?_set]
      split
      · rename_i e;subst e;rw [if_pos (List.getElem?_eq_some_iff.1 hi'.1).1,hi'.1]
      · rfl
    · have e : canI (zCU L) L i = zIX L:=by rw [zIX,if_pos hok,canI,List.take_of_length_le (by omega),List.drop_of_length_le (by omega),List.append_nil]
      exact zGq rfl rfl (by rw [List.length_map,zNK]) (by rw [e];rfl)
  · have hV:=zKF L hL
    have hC:=zCO L hL
    have hck : ckT L = 90:=by simp [ckT,hok]
    rw [hck] at hC
    repeat' first | apply en_n|apply zAH|apply zAB|apply zAF|apply w0|(apply zB4;exact rfl;exact rfl;first|assumption|omega)|(refine zAV zIL hV (zAX rfl zAG))|(refine zAV zCH hC (zAX rfl zAG))|apply ay (hd:=rfl)|exact zAE rfl|exact zAC rfl|exact zAb rfl|exact zAK rfl|apply zAM|apply en_r|apply zAJ|exact zQn rfl
    simp [zIX,hok,zAc]
abbrev Nd.cells (n : Nd) : List D:=[.val (.int .i64 n.kind),.val (.string ⟨n.text.toArray⟩),.val (.int .i64 n.num),.val (.int .i64 n.kids)]
theorem zQW (n : Nd) (b : Bd) : zBH Tryz.prog 134 [.d b.av,.ptr 0 0] [.box (n.cells.map .d)] (bl (decide (b.var = n.num))):=by
  refine zBu Tryz.func134 rfl Tryz.ntmps134 Tryz.results134 rfl ?_
  intro wb St0
  repeat' first | apply en_n|apply zAH|apply zAB|apply zAF|apply w0|(apply aBox (hd:=rfl) (hro:=rfl);exact rfl;exact rfl)|apply ay (hd:=rfl)|exact zAC rfl|exact zCz rfl rfl|(apply zAR;exact rfl;(with_reducible first|exact fb_0|exact fn_2))|(apply zAU;exact rfl;(with_reducible first|exact zAs|exact zBI);exact rfl;exact rfl)|apply zAM|apply zAJ|exact res1 rfl
  rfl
theorem zUY (n : Nd) (l : List Bd) (hl : l.length ≤ 2000000) :
    zBH Tryz.prog 133 [.d (binds l),.clo 134 [0]] [.box (n.cells.map .d)] (i64 (idxP (fun b=>decide (b.var = n.num)) l)):=by
  refine zBu Tryz.func133 rfl Tryz.ntmps133 Tryz.results133 rfl ?_
  intro wb St0
  repeat' first | apply en_n|apply zAH|apply zAB|apply zAF|apply w0|apply ay (hd:=rfl)|exact zAE rfl|exact zAC rfl|(apply zAl;exact rfl;(with_reducible exact zRT))|apply zAI
  refine zAr (α:=Nat) (fun i=>i ≤ l.length ∧ ∀ (j : Nat) u,j < i → l[j]? = some u → decide (u.var = n.num) = false) (fun i=>[(0,.d (binds l)),(1,.clo 134 [0]),(7,.d (i64 (l.length : Int))),(8,.d (i64 (i : Int)))]) (fun _=>[.box (n.cells.map .d)]) (fun i=>l.length - i) 0 ⟨Nat.zero_le _,fun j u h=>by omega⟩
    (zAO (zAA rfl (zAA rfl (Le_d rfl rfl (zAA rfl zAa)))) (zAD rfl rfl zAN) rfl rfl) ?_
  rintro i ⟨hi1,hi2⟩
  repeat' first | apply en_n|apply zAH|apply zAB|apply zAF|apply w0|exact zBF rfl|(refine zBB [0] [0] rfl rfl zPR (zQW n v) rfl ?_ rfl (by decide) rfl rfl rfl rfl;(repeat (refine zAL rfl ?_));exact zAS)|(apply aI (hd:=rfl);(first|exact zAk rfl|exact Co_bb rfl rfl rfl|exact Co_nn rfl);exact rfl;(with_reducible exact zFh);exact fun _=>rfl;rotate_left;intro v hv;rotate_right)|apply ay (hd:=rfl)|exact zAE rfl|exact zAC rfl|(apply zAf;exact rfl;(with_reducible exact zSV);exact rfl)|exact zCQ rfl rfl|exact zBC rfl rfl|(apply zAz;exact rfl;(intro hb);rotate_left;(intro hb);rotate_right)|apply zAI|apply zAP|apply zAM|apply zAt|apply en_r|apply en_e|apply eb_n|apply eb_r|apply eb_e|apply zAJ|exact res1 rfl
  · omega
  · exact zCl (zFb hi2 hv (by simpa using hb)).symm
  · omega
  · refine ⟨i + 1,⟨by omega,fun j u hj hu=>?_⟩,by omega,zAO (zAA rfl (zAA rfl (zAA rfl (zAA rfl zAa)))) (zAD rfl rfl zAN) rfl rfl⟩
    rcases Nat.lt_or_ge j i with h1 | h1
    · exact hi2 j u h1 hu
    · have hv' : l[i]? = some v:=hv
      rw [show j = i by omega,hv'] at hu;injection hu with hu;subst hu;simpa using hb
  · exact zCl (zDa fun j u hu=>hi2 j u (by have:=(List.getElem?_eq_some_iff.1 hu).1;omega) hu).symm
theorem zFJ {α : Type} {p : α → Bool} : ∀ {l : List α},(l.find? p = none ∧ idxP p l = -1) ∨ ∃ (k : Nat) (x : α),l[k]? = some x ∧ idxP p l = k ∧ l.find? p = some x:=by
  intro l
  cases h : l.findIdx? p with
  | none =>
    rw [List.findIdx?_eq_none_iff] at h
    exact .inl ⟨List.find?_eq_none.2 fun x hx=>by rw [h x hx];simp,by unfold idxP;rw [List.findIdx?_eq_none_iff.2 h]⟩
  | some k =>
    obtain ⟨hk,h1,h2⟩:=List.findIdx?_eq_some_iff_getElem.1 h
    refine .inr ⟨k,l[k],List.getElem?_eq_getElem hk,by unfold idxP;rw [h],?_⟩
    exact List.find?_eq_some_iff_getElem.2 ⟨h1,k,hk,rfl,fun j hj=>by simpa using h2 j hj⟩
def apI (l : List Bd) (L : List Nd) (i : Nat) : List Nd:=(L.take i).flatMap (app1 l)
theorem zJ7 {l : List Bd} {L : List Nd} {i : Nat} {v : Nd} (h : L[i]? = some v) : apI l L (i + 1) = apI l L i ++ app1 l v:=by
  unfold apI;rw [List.take_add_one,h];simp
theorem zJ2 {l : List Bd} (M : Nat) (hM : ∀ b ∈ l,b.ty.length ≤ M) (h1 : 1 ≤ M) : ∀ (L : List Nd),(L.flatMap (app1 l)).length ≤ L.length * M
  | []=>by simp
  | n :: L=>by
    have ih:=zJ2 M hM h1 L
    have : (app1 l n).length ≤ M:=by
      unfold app1
      split
      · split
        · rename_i b hb;exact hM b (List.mem_of_find?_eq_some hb)
        · simpa using h1
      · simpa using h1
    simp only [List.flatMap_cons,List.length_append,List.length_cons,Nat.add_mul];omega
set_option maxHeartbeats 1000000 in
theorem zNV (l : List Bd) (L : List Nd) (hl : l.length ≤ 2000000) (hL : L.length ≤ 10000) (hM : ∀ b ∈ l,b.ty.length ≤ 20000) : zAj Tryz.prog 114 [binds l,zAc L] (zAc (zFm l L)):=by
  have hbd : ∀ k,(apI l L k).length ≤ 200000000:=fun k=>by
    have h1:=zJ2 (l:=l) 20000 hM (by omega) (L.take k)
    have h2 : (L.take k).length ≤ L.length:=by rw [List.length_take];omega
    have h3:=Nat.mul_le_mul_right 20000 (Nat.le_trans h2 hL)
    unfold apI;omega
  refine zAd Tryz.func114 rfl Tryz.ntmps114 Tryz.results114 rfl ?_
  intro wb St0
  repeat' first | apply en_n|apply zAH|apply zAB|apply zAF|apply w0|apply ay (hd:=rfl)|exact zAE rfl|(apply zAl;exact rfl;(with_reducible exact zA0))|exact zAb rfl|apply zAI
  refine zCE 5 false 40 4 rfl rfl ?_
  refine zAr (α:=Nat) (fun i=>i ≤ L.length) (fun i=>[(0,.d (binds l)),(5,.buf 0 ((apI l L i).map Nd.av).length),(9,.d (zAc L)),(10,.d (i64 (L.length : Int))),(11,.d (i64 (i : Int)))]) (fun i=>[.buf false 40 4 ((apI l L i).map Nd.av)]) (fun i=>L.length - i) 0 (Nat.zero_le _)
    (zAO (zAA rfl (zBq rfl rfl (zAA rfl (Le_d rfl rfl (zAA rfl zAa))))) (zAu rfl rfl rfl zAN) rfl rfl) ?_
  intro i hi
  repeat' first | apply en_n|apply zAH|apply zAB|apply zAF|apply w0|(apply k0u (hd:=rfl);exact rfl;exact rfl)|(refine zBB [1] [] rfl rfl zTt (zUY v l hl) rfl ?_ rfl (by decide) rfl rfl rfl rfl;(repeat (refine zAL rfl ?_));exact zAS)|(apply aI (hd:=rfl);(first|exact zAk rfl|exact Co_bb rfl rfl rfl|exact Co_nn rfl);exact rfl;(with_reducible first|exact zFh|exact zAW);exact fun _=>rfl;rotate_left;intro v hv;rotate_right)|(apply aApp (hd:=rfl) (hro:=rfl);exact rfl;exact rfl;(first|exact zAk rfl|exact Co_bb rfl rfl rfl|exact Co_nn rfl);(first|exact rfl|(simp;done));exact rfl;(with_reducible exact zBb);(with_reducible exact zAW);(with_reducible exact zEL);(with_reducible exact zDL);(first|exact zCC (fun _=>rfl)|exact zCA rfl))|(apply zA4 (hd:=rfl) (hro:=rfl);(with_reducible exact zAp))|apply ay (hd:=rfl)|exact zAE rfl|exact zAC rfl|(apply zAy;exact rfl;(with_reducible exact fb_1))|(apply zAg;exact rfl;(with_reducible exact zAn))|(apply zAf;exact rfl;(with_reducible exact zAY);exact rfl)|exact zCQ rfl rfl|exact zD6 rfl rfl|exact zBC rfl rfl|exact zAi rfl rfl|exact zAh rfl rfl|exact zAw rfl|exact zAm rfl|(apply zAR;exact rfl;(with_reducible exact fn_0))|(apply zAU;exact rfl;(with_reducible exact zAe);exact rfl;exact rfl)|(apply zCn;exact rfl;(with_reducible exact zAY);exact rfl;exact rfl;exact rfl)|(apply zB8;(with_reducible exact zBb);(with_reducible exact zAW);(with_reducible exact zDM);exact rfl;exact rfl;(first|exact zAX rfl zAG|exact zCx rfl rfl rfl zAG|exact zDB rfl zAG);exact rfl)|exact zF3 rfl|exact w1 rfl rfl|(apply gD;exact rfl;exact rfl;(intro hb);rotate_left;(intro hb);rotate_right)|(refine w0' ?_)|(apply zAx;exact rfl;exact rfl;exact rfl;(with_reducible exact zAY);exact rfl;exact rfl;exact rfl;exact rfl)|(apply zAz;exact rfl;(intro hb);rotate_left;(intro hb);rotate_right)|exact zAK rfl|apply zAI|apply zAP|apply zAM|apply zAt|apply en_e|apply eb_n|apply eb_e|apply zAJ|(apply zGq;exact rfl;exact rfl;(first|exact rfl|(simp;done)))
  all_goals first | omega | skip
  · have:=hbd i;simp only [List.length_map,List.length_singleton];omega
  · have e:=zJ7 (l:=l) (i:=i) hv
    rw [app1,if_neg hb] at e
    exact ⟨i + 1,by omega,by omega,zAO (zAA rfl (zBq rfl (by rw [e];simp) (zAA rfl (zAA rfl (zAA rfl zAa))))) (zAu rfl rfl (by rw [e,List.map_append];rfl) zAN) rfl rfl⟩
  · have:=hbd i;simp only [List.length_map,List.length_singleton];omega
  · have e:=zJ7 (l:=l) (i:=i) hv
    rename_i hk
    rcases zFJ (p:=fun b : Bd=>decide (b.var = v.num)) (l:=l) with ⟨f1,_⟩ | ⟨k,x,_,f2,_⟩
    · rw [app1,if_pos (by omega),f1] at e
      exact ⟨i + 1,by omega,by omega,zAO (zAA rfl (zBq rfl (by rw [e];simp) (zAA rfl (zAA rfl (zAA rfl zAa))))) (zAu rfl rfl (by rw [e,List.map_append];rfl) zAN) rfl rfl⟩
    · omega
  · rcases zFJ (p:=fun b : Bd=>decide (b.var = v.num)) (l:=l) with ⟨_,f2⟩ | ⟨k,x,f1,f2,_⟩
    · omega
    · have:=(List.getElem?_eq_some_iff.1 f1).1;omega
  · have:=hbd i
    have:=hM v (List.mem_of_getElem? hv)
    simp only [List.length_map];omega
  · rename_i v0 hv0 hk
    have e:=zJ7 (l:=l) (i:=i) hv0
    rcases zFJ (p:=fun b : Bd=>decide (b.var = v0.num)) (l:=l) with ⟨_,f2⟩ | ⟨k,x,f1,f2,f3⟩
    · omega
    · rw [f2,Int.toNat_natCast,f1] at hv
      injection hv with hv;subst hv
      rw [app1,if_pos (by omega),f3] at e
      exact ⟨i + 1,by omega,by omega,zAO (zAA rfl (zBq rfl (by rw [e];simp) (zAA rfl (zAA rfl (zAA rfl zAa))))) (zAu rfl rfl (by rw [e,List.map_append]) zAN) rfl rfl⟩
  · have e : apI l L i = zFm l L:=by unfold apI zFm;rw [List.take_of_length_le (by omega)]
    rw [e];rfl
end Go.Proofs.YtblomnkamngnbaaGreatDoor
namespace Go.Proofs.YtblomnkamngnbaaGreatDoor
open Go.Sx
abbrev Sto:=List (Int × List Nd)
abbrev Seen:=List (Int × Int)
def zBv {β : Type} : List (Int × β) → Int → Option β
  | [],_=>none
  | (k,d) :: r,a=>if k = a then some d else zBv r a
def putA {β : Type} : List (Int × β) → Int → β → List (Int × β)
  | [],a,d=>[(a,d)]
  | (k,e) :: r,a,d=>if k = a then (k,d) :: r else (k,e) :: putA r a d
def encA {β : Type} (f : β → D) (L : List (Int × β)) : List (Int × D):=L.map fun p=>(p.1,f p.2)
theorem zGL {β : Type} (f : β → D) : ∀ (L : List (Int × β)) (a : Int),zCK (encA f L) a = (zBv L a).map f
  | [],a=>rfl
  | (k,d) :: r,a=>by
    simp only [encA,List.map_cons,zCK,zBv]
    split
    · rfl
    · exact zGL f r a
theorem zFU {β : Type} (f : β → D) : ∀ (L : List (Int × β)) (a : Int) (d : β),putK (encA f L) a (f d) = encA f (putA L a d)
  | [],a,d=>rfl
  | (k,e) :: r,a,d=>by
    simp only [encA,List.map_cons,putK,putA]
    split
    · rfl
    · simp only [List.map_cons];congr 1;exact zFU f r a d
abbrev ki : Int → Value:=fun a=>Value.int .i64 a
abbrev mSto (L : Sto) : List (Value × D):=kvs ki (encA zAc L)
abbrev zQ4 (L : Seen) : List (Value × D):=kvs ki (encA i64 L)
abbrev stO (nx : Int) (L : Sto) : List Ob:=[.bx none none [.d (i64 nx),.mp 1],.map none (mSto L)]
theorem zGJ (L : Sto) (a : Int) : (zCK (encA zAc L) a).getD (.slice []) = zAc ((zBv L a).getD []) ∧ (zCK (encA zAc L) a).isSome = (zBv L a).isSome:=by
  rw [zGL];cases zBv L a <;> exact ⟨rfl,rfl⟩
theorem zEX (L : Seen) (a : Int) : (zCK (encA i64 L) a).getD (.val (.int .i64 0)) = i64 ((zBv L a).getD 0):=by
  rw [zGL];cases zBv L a <;> rfl
def zJo : Nat → Sto → List Nd → Option (List Nd)
  | 0,_,_=>none
  | n + 1,L,t=>match t[0]? with
    | none=>none
    | some x=>if x.kind = 31 then (match zBv L x.num with | some u=>zJo n L u | none=>some t) else some t
def catO {α : Type} (f : α → Option (List Nd)) : List α → Option (List Nd)
  | []=>some []
  | x :: r=>match f x,catO f r with
    | some a,some b=>some (a ++ b)
    | _,_=>none
def resF : Nat → Sto → List Nd → Option (List Nd)
  | 0,_,_=>none
  | n + 1,L,t=>catO (fun (x : Nd)=>if x.kind = 31 then (match zBv L x.num with | some u=>resF n L u | none=>some [x]) else some [x]) t
def zCB {α β : Type} (f : β → α → Option β) : β → List α → Option β
  | b,[]=>some b
  | b,x :: r=>match f b x with
    | some c=>zCB f c r
    | none=>none
def zIh : Nat → Sto → List Nd → Seen → Option (Int × Seen)
  | 0,_,_,_=>none
  | n + 1,L,t,S=>zCB (fun (p : Int × Seen) (x : Nd) =>
      if x.kind = 31 then (match zBv L x.num with
        | some u=>if (zBv p.2 x.num).getD 0 > 0 then some (min (p.1 + (zBv p.2 x.num).getD 0) 4001,p.2) else (match zIh n L u p.2 with
          | some (m,S')=>some (min (p.1 + m) 4001,putA S' x.num m)
          | none=>none)
        | none=>some (min (p.1 + 1) 4001,p.2))
      else some (min (p.1 + 1) 4001,p.2)) (0,S) t
def inF : Nat → Sto → Int → List Nd → Seen → Option (Bool × Seen)
  | 0,_,_,_,_=>none
  | n + 1,L,v,t,S=>zCB (fun (p : Bool × Seen) (x : Nd) =>
      if p.1 then some p
      else if x.kind ≠ 31 ∨ (zBv p.2 x.num).getD 0 > 0 then some p
      else if x.num = v then some (true,putA p.2 x.num ((zBv p.2 x.num).getD 0 + 1))
      else inF n L v ((zBv L x.num).getD []) (putA p.2 x.num ((zBv p.2 x.num).getD 0 + 1))) (false,S) t
def cutO (t : List Nd) (a b : Int) : Option (List Nd):=if 0 ≤ a ∧ a ≤ b ∧ b ≤ t.length then some ((t.take b.toNat).drop a.toNat) else none
def zJb : Nat → Sto → List Nd → List Nd → Option (Int × Sto)
  | 0,_,_,_=>none
  | n + 1,L,a0,b0=>match zJo n L a0,zJo n L b0 with
    | some a,some b=>match a[0]?,b[0]? with
      | some x,some y =>
        if a.length > 4000 ∨ b.length > 4000 then none
        else if x.kind = 31 ∧ y.kind = 31 then (if x.num ≠ y.num then some (0,putA L (max x.num y.num) (varN (min x.num y.num))) else some (0,L))
        else if y.kind = 31 then zJb n L b a
        else if x.kind = 31 then (match inF n L x.num b [] with
          | some (true,_)=>some (91,L)
          | some (false,_)=>some (0,putA L x.num b)
          | none=>none)
        else if x ≠ y then some (91,L)
        else zCB (fun (p : Int × Sto) (i : Nat)=>if p.1 ≠ 0 then some p else
            match (zBV a 0)[i]?,(zBV b 0)[i]? with
            | some k,some l=>(match cutO a k (endF a k),cutO b l (endF b l) with
              | some u,some v=>zJb n p.2 u v
              | _,_=>none)
            | _,_=>none) (0,L) (List.range (zBV a 0).length)
      | _,_=>none
    | _,_=>none
section
variable {P : Program} {η : List Ob} {σ : Sl} {dst : Option Nat} {ty : TypeId} {pos : String} {after : Array Edge} {gd : Option (Nat × Bool)} {t : TypeId} {x y : Operand}
theorem zDT {id k e : Nat} {q : IntKind} {kb : Option Nat} {L : List (Int × D)} {a : Int} {zd d : D} {b : Bool} (hl : (zCK L a).getD zd = d ∧ (zCK L a).isSome = b) (hx : oval σ x = .mp id) (ho : η[id]? = some (.map kb (kvs (fun a=>.int q a) L))) (hy : oval σ y = .d (.val (.int q a))) (ht : zDZ P t = some (k,e)) (hk : P.underlying k = some (.int q)) (hz : zFr P e = some zd) :
    Ylds P η σ ⟨dst,.lookup t x y true,ty,pos,after,gd⟩ (.d (.tup [d,.val (.bool b)])):=by
  obtain ⟨rfl,rfl⟩:=hl;exact zLb hx ho hy ht hk hz
theorem zEx {id k e : Nat} {q : IntKind} {kb : Option Nat} {L : List (Int × D)} {a : Int} {zd d : D} (hl : (zCK L a).getD zd = d) (hx : oval σ x = .mp id) (ho : η[id]? = some (.map kb (kvs (fun a=>.int q a) L))) (hy : oval σ y = .d (.val (.int q a))) (ht : zDZ P t = some (k,e)) (hk : P.underlying k = some (.int q)) (hz : zFr P e = some zd) :
    Ylds P η σ ⟨dst,.lookup t x y false,ty,pos,after,gd⟩ (.d d):=by
  subst hl;exact zTF hx ho hy ht hk hz
end
section
variable {C : Ctx} {ops : Array Oper} {rest : List Oper} {K : Sl → List Ob → Prop} {σ : Sl} {η : List Ob} {ty : TypeId} {pos : String} {after : Array Edge} {gd : Option (Nat × Bool)} {t : TypeId} {x y z : Operand}
theorem zGd {id k e : Nat} {q : IntKind} {kb : Option Nat} {L L' : List (Int × D)} {a : Int} {dv : D} (hp : putK L a dv = L') (hx : oval σ x = .mp id) (ho : η[id]? = some (.map kb (kvs (fun a=>.int q a) L))) (hy : oval σ y = .d (.val (.int q a))) (hz : Co η (oval σ z) dv) (ht : zDZ C.P t = some (k,e)) (hk : C.P.underlying k = some (.int q)) (hro : Nat.ble C.ro id = true)
    (h : alex C false ops rest K σ (η.set id (.map kb (kvs (fun a=>.int q a) L')))) : zBA C false ops ⟨none,.mapUpdate t x y z,ty,pos,after,gd⟩ rest K σ η:=by
  subst hp;exact zTB hx ho hy hz ht (zPB hk) hro h
end
theorem zJX {L : Sto} {a : Int} {u : List Nd} (h : zBv L a = some u) : (zCK (encA zAc L) a).getD (.slice []) = zAc u ∧ (zCK (encA zAc L) a).isSome = true:=by
  obtain ⟨h1,h2⟩:=zGJ L a;rw [h1,h2,h];exact ⟨rfl,rfl⟩
theorem zMZ {L : Sto} {a : Int} (h : zBv L a = none) : (zCK (encA zAc L) a).getD (.slice []) = zAc [] ∧ (zCK (encA zAc L) a).isSome = false:=by
  obtain ⟨h1,h2⟩:=zGJ L a;rw [h1,h2,h];exact ⟨rfl,rfl⟩
theorem zGN {β : Type} : ∀ {L : List (Int × β)} {a : Int} {d : β},zBv L a = some d → (a,d) ∈ L
  | (k,e) :: r,a,d,h=>by
    unfold zBv at h
    split at h
    · rename_i hk;injection h with h;subst h;subst hk;simp
    · exact List.mem_cons_of_mem _ (zGN h)
  | [],_,_,h=>by cases h
end Go.Proofs.YtblomnkamngnbaaGreatDoor
namespace Go.Proofs.YtblomnkamngnbaaGreatDoor
open Go.Sx
attribute [local irreducible] zAT Program.underlying Ylds zBA alex zBc zBO awp zAj zBX RCall zA2 zBH zBQ zA8 zBT zBZ zBd zBr zBN
theorem zEK {k : Option Nat} {et : Option TypeId} {cs : List SV} : WOb (.bx k none cs) (.bx k et cs):=fun _ _ _ ⟨b,e,us,h1,h2,h3,h4,h5,h6,h7⟩=>⟨b,e,us,h1,h2,h3,h4,h5,h6,h7.1,fun _ h=>(by cases h)⟩
theorem zIf (n : Int) : zA2 Tryz.prog 37 [.d (i64 n)] [] (.ptr 1 0) [.map none (mSto []),.bx none none [.d (i64 n),.mp 0]]:=by
  refine zA1 Tryz.func37 rfl Tryz.ntmps37 Tryz.results37 rfl rfl rfl ?_
  intro wb St0 X fx
  repeat' first | (apply zGf;(with_reducible exact zQw);(with_reducible exact zQX);exact zEP rfl (zEP rfl zNQ);exact rfl;exact rfl;exact rfl;exact rfl)|apply en_n|apply zAH|apply zAB|apply zAF|apply w0|(apply zGe (hd:=rfl) (hro:=rfl);(with_reducible exact zHP);(with_reducible exact zES))|apply ay (hd:=rfl)|exact zAE rfl|exact zAC rfl|exact zEJ rfl|apply zAM
  exact zAq (zAO (zAA rfl zAa) (zAD rfl rfl (zGk rfl zEK zAN)) rfl rfl)
theorem zRp (nx : Int) (L : Sto) (h : 0 ≤ nx ∧ nx ≤ 4000000000000) : zA2 Tryz.prog 109 [.ptr 0 0] (stO nx L) (.d (zAc (varN nx))) (stO (nx + 1) L):=by
  refine zA1 Tryz.func109 rfl Tryz.ntmps109 Tryz.results109 rfl rfl rfl ?_
  intro wb St0 X fx
  repeat' first | apply en_n|apply zAH|apply zAB|apply zAF|apply w0|exact zAo rfl|(apply zAV (hb:=zIF) (hc:=zHp _))|apply ay (hd:=rfl)|exact zAC rfl|exact zBC rfl rfl|exact zIj rfl rfl|exact zAb rfl|exact zAZ rfl|(apply zAR;exact rfl;(with_reducible exact fs_0))|(apply zAU;exact rfl;(with_reducible exact zAs);exact rfl;exact rfl)|(refine w0' ?_)|(apply zAx;exact rfl;exact rfl;exact rfl;(with_reducible exact zAs);exact rfl;exact rfl;exact rfl;exact rfl)|apply zAM|exact zAG|refine zAX rfl ?_
  · omega
  · omega
  · rw [show nx + 1 - 1 = nx by omega]
    exact zAq (zAO (zAA rfl zAa) (zAD rfl rfl (zAD rfl rfl zAN)) rfl rfl)
theorem zPG (nx : Int) (L : Sto) (n : Nat) (t r : List Nd) (h : zJo n L t = some r) : zBH Tryz.prog 157 [.ptr 0 0,.d (zAc t)] (stO nx L) (zAc r):=by
  refine zBu Tryz.func157 rfl Tryz.ntmps157 Tryz.results157 rfl ?_
  intro wb St0
  repeat' first | apply en_n|apply zAH|apply zAB|apply zAF|apply w0|apply ay (hd:=rfl)|exact zAb rfl|apply zAI
  refine zAr (α:=Nat × List Nd) (fun p=>zJo p.1 L p.2 = some r) (fun p=>[(0,.ptr 0 0),(1,.d (zAc p.2))]) (fun _=>stO nx L) (fun p=>p.1) (n,t) h
    (zAO (zAA rfl (zAA rfl zAa)) (zAD rfl rfl (zAD rfl rfl zAN)) rfl rfl) ?_
  clear h
  rintro ⟨n,t⟩ h
  dsimp only at h ⊢
  obtain ⟨n,rfl⟩ : ∃ m,n = m + 1:=by cases n with | zero=>cases h | succ m=>exact ⟨m,rfl⟩
  cases hx : t[0]? with
  | none=>simp [zJo,hx] at h
  | some x =>
    have hlen : 0 < t.length:=(List.getElem?_eq_some_iff.1 hx).1
    simp only [zJo,hx] at h
    repeat' first | apply en_n|apply zAH|apply zAB|apply zAF|apply w0|exact zAo rfl|(apply zLb;exact rfl;exact rfl;exact rfl;(with_reducible exact zHP);(with_reducible exact zES);(with_reducible exact zDj))|(apply aJ (hd:=rfl);(first|exact zAk rfl|exact Co_bb rfl rfl rfl|exact Co_nn rfl);exact rfl;(with_reducible exact zAW);assumption;omega;exact fun _=>rfl)|apply ay (hd:=rfl)|exact zAE rfl|exact zAC rfl|(apply zAy;exact rfl;(with_reducible first|exact fn_0|exact fn_2))|(apply zAg;exact rfl;(with_reducible first|exact zAe|exact zBI))|exact zCz rfl rfl|exact zBo rfl|exact zBP rfl rfl|exact zAZ rfl|(apply zAR;exact rfl;(with_reducible exact fs_1))|(apply zAU;exact rfl;(with_reducible exact zE7);exact rfl;exact rfl)|(apply zAz;exact rfl;(intro hb);rotate_left;(intro hb);rotate_right)|(apply zCZ;exact rfl;(intro hb);rotate_left;(intro hb);rotate_right)|apply zAI|apply zAP|apply zAM|apply zAt|refine zA6 (by kernel_rfl) (by kernel_rfl) ?_|apply en_e|apply eb_n|apply eb_e|refine eb_o rfl ?_|apply zAJ|exact res1 rfl
    · simp only [zGL,Option.isSome_map,Bool.not_eq_true',Option.isSome_eq_false_iff,Option.isNone_iff_eq_none] at hb
      have hk : x.kind = 31:=‹_›
      rw [if_pos hk,hb] at h
      injection h with h;rw [h]
    · have hk : x.kind = 31:=‹_›
      have hs:=(zGJ L x.num).2
      rw [hs] at hb
      rw [if_pos hk] at h
      cases hq : zBv L x.num with
      | none=>rw [hq] at hb;cases hb
      | some u =>
        rw [hq] at h
        exact ⟨(n,u),h,by omega,zAO (zAA rfl (Le_d rfl (by rw [(zGJ L x.num).1,hq];rfl) zAa)) (zAD rfl rfl (zAD rfl rfl zAN)) rfl rfl⟩
    · rw [if_neg hb] at h;injection h with h;rw [h]
theorem zIW {α : Type} {f : α → Option (List Nd)} : ∀ {L : List α} {r : List Nd},catO f L = some r → ∀ i,∃ a,catO f (L.take i) = some a ∧ a.length ≤ r.length
  | [],r,h,i=>by simp only [catO,Option.some.injEq] at h;subst h;exact ⟨[],by simp [catO],Nat.le_refl _⟩
  | x :: L,r,h,0=>⟨[],by simp [catO],Nat.zero_le _⟩
  | x :: L,r,h,i + 1=>by
    simp only [catO] at h
    split at h
    · rename_i a b h1 h2
      injection h with h;subst h
      obtain ⟨c,h3,h4⟩:=zIW h2 i
      exact ⟨a ++ c,by simp [catO,h1,h3],by simp;omega⟩
    · cases h
theorem zLO {α : Type} {f : α → Option (List Nd)} : ∀ {L : List α} {i : Nat} {v : α} {a c : List Nd},L[i]? = some v → catO f (L.take i) = some a → catO f (L.take (i + 1)) = some c → ∃ b,f v = some b ∧ c = a ++ b
  | x :: L,0,v,a,c,hv,ha,hc=>by
    simp at hv;subst hv
    simp only [List.take_zero,catO,Option.some.injEq] at ha;subst ha
    simp only [Nat.zero_add,List.take_succ_cons,List.take_zero,catO] at hc
    split at hc
    · rename_i b d h1 h2;injection h2 with h2;subst h2;injection hc with hc;subst hc;exact ⟨b,h1,by simp⟩
    · cases hc
  | x :: L,i + 1,v,a,c,hv,ha,hc=>by
    simp only [List.take_succ_cons,catO] at ha hc
    split at ha
    · rename_i p q h1 h2
      injection ha with ha;subst ha
      split at hc
      · rename_i p' q' h3 h4
        injection hc with hc;subst hc
        rw [h1] at h3;injection h3 with h3;subst h3
        obtain ⟨b,h5,h6⟩:=zLO (by simpa using hv) h2 h4
        exact ⟨b,h5,by rw [h6,List.append_assoc]⟩
      · cases hc
    · cases ha
  | [],_,_,_,_,hv,_,_=>by simp at hv
set_option maxHeartbeats 1000000 in
theorem zMR (nx : Int) (L : Sto) : ∀ (n : Nat) (t r : List Nd),resF n L t = some r → t.length ≤ 1000000 → r.length ≤ 1000000 → (∀ p ∈ L,p.2.length ≤ 1000000) → zBH Tryz.prog 108 [.ptr 0 0,.d (zAc t)] (stO nx L) (zAc r)
  | 0,_,_,h,_,_,_=>by cases h
  | n + 1,t,r,h,ht,hr,hL=>by
    have ih:=zMR nx L n
    refine zBu Tryz.func108 rfl Tryz.ntmps108 Tryz.results108 rfl ?_
    intro wb St0
    unfold resF at h
    generalize hf : (fun x : Nd=>if x.kind = 31 then (match zBv L x.num with | some u=>resF n L u | none=>some [x]) else some [x]) = f at h
    have hf' : ∀ x : Nd,f x = if x.kind = 31 then (match zBv L x.num with | some u=>resF n L u | none=>some [x]) else some [x]:=fun x=>by rw [← hf]
    clear hf
    repeat' first | apply en_n|apply zAH|apply zAB|apply zAF|apply w0|apply ay (hd:=rfl)|exact zAE rfl|(apply zAl;exact rfl;(with_reducible exact zA0))|exact zAb rfl|apply zAI
    refine zCE 5 false 40 4 rfl rfl ?_
    refine zAr (α:=Nat × List Nd) (fun p=>p.1 ≤ t.length ∧ catO f (t.take p.1) = some p.2) (fun p=>[(0,.ptr 0 0),(5,.buf 2 (p.2.map Nd.av).length),(10,.d (zAc t)),(11,.d (i64 (t.length : Int))),(12,.d (i64 (p.1 : Int)))]) (fun p=>stO nx L ++ [.buf false 40 4 (p.2.map Nd.av)]) (fun p=>t.length - p.1) (0,[]) ⟨Nat.zero_le _,by simp [catO]⟩
      (zAO (zAA rfl (zBq rfl rfl (zAA rfl (Le_d rfl rfl (zAA rfl zAa))))) (zAD rfl rfl (zAD rfl rfl (zAu rfl rfl rfl zAN))) rfl rfl) ?_
    rintro ⟨i,a⟩ ⟨hi,ha⟩
    dsimp only at hi ha ⊢
    obtain ⟨a',ha',hal⟩:=zIW h i
    rw [ha] at ha';injection ha' with ha';subst ha'
    rcases Nat.lt_or_ge i t.length with hlt | hge
    · have hx : t[i]? = some t[i]:=List.getElem?_eq_getElem hlt
      generalize t[i] = x at hx
      obtain ⟨a2,ha2,hal2⟩:=zIW h (i + 1)
      obtain ⟨b,hb1,hb2⟩:=zLO hx ha ha2
      rw [hf'] at hb1
      have hal3 : (a ++ b).length ≤ 1000000:=by rw [← hb2];omega
      rw [List.length_append] at hal3
      have fin : ∀ {Q : Nat × List Nd → Prop},Q (i + 1,a2) → ∃ y : Nat × List Nd,(y.1 ≤ t.length ∧ catO f (t.take y.1) = some y.2) ∧ t.length - y.1 < t.length - i ∧ Q y:=fun hQ=>⟨(i + 1,a2),⟨hlt,ha2⟩,by show t.length - (i + 1) < _;omega,hQ⟩
      by_cases hk : x.kind = 31
      · rw [if_pos hk] at hb1
        cases hq : zBv L x.num with
        | none =>
          rw [hq] at hb1;injection hb1 with hb1;subst hb1
          repeat' first | apply en_n|apply zAH|apply zAB|apply zAF|apply w0|(apply aApp (id:=2) (hd:=rfl) (hro:=rfl);exact rfl;exact rfl;(first|exact zAk rfl|exact Co_bb rfl rfl rfl|exact Co_nn rfl);(first|exact rfl|exact (by simp));exact rfl;(with_reducible exact zBb);(with_reducible exact zAW);(with_reducible exact zEL);(with_reducible exact zDL);(first|exact zCC (fun _=>rfl)|exact zCA rfl))|(apply zA5;exact rfl;exact rfl;first|assumption|omega)|(apply zBD;exact rfl;exact rfl;first|assumption|omega)|exact zAo rfl|(apply zDT;exact zMZ hq;exact rfl;exact rfl;exact rfl;(with_reducible exact zHP);(with_reducible exact zES);(with_reducible exact zDj))|(apply aJ (hd:=rfl);(first|exact zAk rfl|exact Co_bb rfl rfl rfl|exact Co_nn rfl);exact rfl;(with_reducible exact zAW);assumption;omega;exact fun _=>rfl)|(apply zA4 (hd:=rfl) (hro:=rfl);(with_reducible exact zAp))|apply ay (hd:=rfl)|exact zAE rfl|exact zAC rfl|(apply zAf;exact rfl;(with_reducible exact zAY);exact rfl)|exact zBC rfl rfl|exact zAi rfl rfl|exact zBP rfl rfl|exact zAw rfl|exact zAm rfl|exact zAZ rfl|(apply zAR;exact rfl;(with_reducible first|exact fs_1|exact fn_0|exact fn_2))|(apply zAU;exact rfl;(with_reducible first|exact zE7|exact zAe|exact zBI);exact rfl;exact rfl)|(apply zCn;exact rfl;(with_reducible exact zAY);exact rfl;exact rfl;exact rfl)|(apply zB8;(with_reducible exact zBb);(with_reducible exact zAW);(with_reducible exact zDM);exact rfl;exact rfl;(first|exact zAX rfl zAG|exact zCx rfl rfl rfl zAG|exact zDB rfl zAG);exact rfl)|exact w1 rfl rfl|(refine w0' ?_)|(apply zAx;exact rfl;exact rfl;exact rfl;(with_reducible exact zAY);exact rfl;exact rfl;exact rfl;exact rfl)|exact zAK rfl|exact zAQ rfl|apply zAI|apply zAP|refine zA6 (by kernel_rfl) (by kernel_rfl) ?_|apply eb_n
          · simp only [List.length_map,List.length_singleton];omega
          · omega
          · refine fin ?_
            subst hb2
            exact zAO (zAA rfl (zBq rfl (by simp) (zAA rfl (zAA rfl (zAA rfl zAa))))) (zAD rfl rfl (zAD rfl rfl (zAu rfl rfl (by rw [List.map_append];rfl) zAN))) rfl rfl
        | some u =>
          rw [hq] at hb1
          have hu : u.length ≤ 1000000:=hL _ (zGN hq)
          have hc:=ih u b hb1 hu (by omega) hL
          repeat' first | apply en_n|apply zAH|apply zAB|apply zAF|apply w0|(apply aApp (id:=2) (hd:=rfl) (hro:=rfl);exact rfl;exact rfl;(first|exact zAk rfl|exact Co_bb rfl rfl rfl|exact Co_nn rfl);(first|exact rfl|exact (by simp));exact rfl;(with_reducible exact zBb);(with_reducible exact zAW);(with_reducible exact zEL);(with_reducible exact zDL);(first|exact zCC (fun _=>rfl)|exact zCA rfl))|(apply zA5;exact rfl;exact rfl;first|assumption|omega)|(apply zBD;exact rfl;exact rfl;first|assumption|omega)|exact zAo rfl|(apply zDT;exact zJX hq;exact rfl;exact rfl;exact rfl;(with_reducible exact zHP);(with_reducible exact zES);(with_reducible exact zDj))|(refine zBB [0,1] [] rfl rfl zM1 (hc) rfl ?_ rfl (by decide) rfl rfl rfl rfl;(repeat (refine zAL rfl ?_));exact zAS)|(apply aJ (hd:=rfl);(first|exact zAk rfl|exact Co_bb rfl rfl rfl|exact Co_nn rfl);exact rfl;(with_reducible exact zAW);assumption;omega;exact fun _=>rfl)|(apply zA4 (hd:=rfl) (hro:=rfl);(with_reducible exact zAp))|apply ay (hd:=rfl)|exact zAE rfl|exact zAC rfl|(apply zAf;exact rfl;(with_reducible exact zAY);exact rfl)|exact zBC rfl rfl|exact zAi rfl rfl|exact zBP rfl rfl|exact zAw rfl|exact zAm rfl|exact zAZ rfl|(apply zAR;exact rfl;(with_reducible first|exact fs_1|exact fn_0|exact fn_2))|(apply zAU;exact rfl;(with_reducible first|exact zE7|exact zAe|exact zBI);exact rfl;exact rfl)|exact w1 rfl rfl|(refine w0' ?_)|(apply zAx;exact rfl;exact rfl;exact rfl;(with_reducible exact zAY);exact rfl;exact rfl;exact rfl;exact rfl)|exact zAK rfl|apply zAI|apply zAP|refine zA6 (by kernel_rfl) (by kernel_rfl) ?_|apply eb_n
          · simp only [List.length_map];omega
          · omega
          · refine fin ?_
            subst hb2
            exact zAO (zAA rfl (zBq rfl (by simp) (zAA rfl (zAA rfl (zAA rfl zAa))))) (zAD rfl rfl (zAD rfl rfl (zAu rfl rfl (by rw [List.map_append]) zAN))) rfl rfl
      · rw [if_neg hk] at hb1;injection hb1 with hb1;subst hb1
        repeat' first | apply en_n|apply zAH|apply zAB|apply zAF|apply w0|(apply aApp (id:=2) (hd:=rfl) (hro:=rfl);exact rfl;exact rfl;(first|exact zAk rfl|exact Co_bb rfl rfl rfl|exact Co_nn rfl);(first|exact rfl|exact (by simp));exact rfl;(with_reducible exact zBb);(with_reducible exact zAW);(with_reducible exact zEL);(with_reducible exact zDL);(first|exact zCC (fun _=>rfl)|exact zCA rfl))|(apply zA5;exact rfl;exact rfl;first|assumption|omega)|(apply zA9;exact rfl;exact rfl;first|assumption|omega)|exact zAo rfl|(apply zDT;exact ⟨rfl,rfl⟩;exact rfl;exact rfl;exact rfl;(with_reducible exact zHP);(with_reducible exact zES);(with_reducible exact zDj))|(apply aJ (hd:=rfl);(first|exact zAk rfl|exact Co_bb rfl rfl rfl|exact Co_nn rfl);exact rfl;(with_reducible exact zAW);assumption;omega;exact fun _=>rfl)|(apply zA4 (hd:=rfl) (hro:=rfl);(with_reducible exact zAp))|apply ay (hd:=rfl)|exact zAE rfl|exact zAC rfl|(apply zAf;exact rfl;(with_reducible exact zAY);exact rfl)|exact zBC rfl rfl|exact zAh rfl rfl|exact zBP rfl rfl|exact zAw rfl|exact zAm rfl|exact zAZ rfl|(apply zAR;exact rfl;(with_reducible first|exact fs_1|exact fn_0|exact fn_2))|(apply zAU;exact rfl;(with_reducible first|exact zE7|exact zAe|exact zBI);exact rfl;exact rfl)|(apply zCn;exact rfl;(with_reducible exact zAY);exact rfl;exact rfl;exact rfl)|(apply zB8;(with_reducible exact zBb);(with_reducible exact zAW);(with_reducible exact zDM);exact rfl;exact rfl;(first|exact zAX rfl zAG|exact zCx rfl rfl rfl zAG|exact zDB rfl zAG);exact rfl)|(apply k1 (hd:=rfl);exact rfl;exact rfl)|(refine w0' ?_)|(apply zAx;exact rfl;exact rfl;exact rfl;(with_reducible exact zAY);exact rfl;exact rfl;exact rfl;exact rfl)|exact zAK rfl|exact zAQ rfl|apply zAI|apply zAP|refine zA6 (by kernel_rfl) (by kernel_rfl) ?_|apply eb_n
        · simp only [List.length_map,List.length_singleton];omega
        · omega
        · refine fin ?_
          subst hb2
          exact zAO (zAA rfl (zBq rfl (by simp) (zAA rfl (zAA rfl (zAA rfl zAa))))) (zAD rfl rfl (zAD rfl rfl (zAu rfl rfl (by rw [List.map_append];rfl) zAN))) rfl rfl
    · have e : a = r:=by rw [List.take_of_length_le hge,h] at ha;injection ha with ha;exact ha.symm
      subst e
      repeat' first | apply en_n|apply zAH|apply zAB|apply zAF|apply w0|(apply zBn;exact rfl;exact rfl;first|assumption|omega)|apply ay (hd:=rfl)|exact zAw rfl|exact zAm rfl|exact zAQ rfl|apply zAM|apply zAt|apply en_e|apply eb_e|apply zAJ|(apply zGq;exact rfl;exact rfl;(first|exact rfl|(simp;done)))
      rfl
end Go.Proofs.YtblomnkamngnbaaGreatDoor
namespace Go.Proofs.YtblomnkamngnbaaGreatDoor
open Go.Sx
theorem zEd {α β : Type} {f : β → α → Option β} : ∀ {L : List α} {i : Nat} {v : α} {b c : β},L[i]? = some v → zCB f b (L.take i) = some c → zCB f b (L.take (i + 1)) = f c v
  | x :: L,0,v,b,c,hv,hc=>by
    simp at hv;subst hv
    simp only [List.take_zero,zCB,Option.some.injEq] at hc;subst hc
    simp only [Nat.zero_add,List.take_succ_cons,List.take_zero,zCB]
    cases f b x <;> rfl
  | x :: L,i + 1,v,b,c,hv,hc=>by
    simp only [List.take_succ_cons,zCB] at hc ⊢
    cases h : f b x with
    | none=>rw [h] at hc;cases hc
    | some d=>rw [h] at hc;exact zEd (by simpa using hv) hc
  | [],_,_,_,_,hv,_=>by simp at hv
theorem zEc {α β : Type} {f : β → α → Option β} : ∀ {L : List α} {b r : β},zCB f b L = some r → ∀ i,∃ c,zCB f b (L.take i) = some c
  | [],b,r,h,i=>⟨b,by simp [zCB]⟩
  | x :: L,b,r,h,0=>⟨b,by simp [zCB]⟩
  | x :: L,b,r,h,i + 1=>by
    simp only [zCB,List.take_succ_cons] at h ⊢
    cases hf : f b x with
    | none=>rw [hf] at h;cases h
    | some d=>rw [hf] at h;exact zEc h i
theorem zEe {α β : Type} {f : β → α → Option β} {J : β → Prop} (hs : ∀ b x c,J b → f b x = some c → J c) : ∀ {L : List α} {b r : β},J b → zCB f b L = some r → J r
  | [],b,r,hb,h=>by simp only [zCB,Option.some.injEq] at h;subst h;exact hb
  | x :: L,b,r,hb,h=>by
    simp only [zCB] at h
    cases hf : f b x with
    | none=>rw [hf] at h;cases h
    | some d=>rw [hf] at h;exact zEe hs (hs b x d hb hf) h
def SeenB (S : Seen) : Prop:=∀ a v,zBv S a = some v → 0 ≤ v ∧ v ≤ 4001
theorem zGM {β : Type} : ∀ (L : List (Int × β)) (a b : Int) (d : β),zBv (putA L a d) b = if a = b then some d else zBv L b
  | [],a,b,d=>by simp [putA,zBv]
  | (k,x) :: r,a,b,d=>by
    have ih:=zGM r a b d
    unfold putA
    by_cases h : k = a
    · subst h
      rw [if_pos rfl]
      unfold zBv
      split <;> rfl
    · rw [if_neg h]
      simp only [zBv]
      by_cases hb : k = b
      · subst hb
        rw [if_pos rfl,if_pos rfl,if_neg (fun e=>h e.symm)]
      · rw [if_neg hb,if_neg hb,ih]
theorem SeenB.put {S : Seen} (h : SeenB S) {a v : Int} (hv : 0 ≤ v ∧ v ≤ 4001) : SeenB (putA S a v):=fun b w hb=>by
  rw [zGM] at hb
  split at hb
  · injection hb with hb;subst hb;exact hv
  · exact h b w hb
theorem SeenB.get {S : Seen} (h : SeenB S) (a : Int) : 0 ≤ (zBv S a).getD 0 ∧ (zBv S a).getD 0 ≤ 4001:=by
  cases hq : zBv S a with
  | none=>simp
  | some v=>simpa [hq] using h a v hq
def szS (n : Nat) (L : Sto) (p : Int × Seen) (x : Nd) : Option (Int × Seen) :=
  if x.kind = 31 then (match zBv L x.num with
    | some u=>if (zBv p.2 x.num).getD 0 > 0 then some (min (p.1 + (zBv p.2 x.num).getD 0) 4001,p.2) else (match zIh n L u p.2 with
      | some (m,S')=>some (min (p.1 + m) 4001,putA S' x.num m)
      | none=>none)
    | none=>some (min (p.1 + 1) 4001,p.2))
  else some (min (p.1 + 1) 4001,p.2)
theorem zIt (n : Nat) (L : Sto) (t : List Nd) (S : Seen) : zIh (n + 1) L t S = zCB (szS n L) (0,S) t:=rfl
theorem zMc (L : Sto) : ∀ (n : Nat) (t : List Nd) (S : Seen) (m : Int) (S' : Seen),SeenB S → zIh n L t S = some (m,S') → (0 ≤ m ∧ m ≤ 4001) ∧ SeenB S'
  | 0,_,_,_,_,_,h=>by cases h
  | n + 1,t,S,m,S',hS,h=>by
    have ih:=zMc L n
    rw [zIt] at h
    refine zEe (J:=fun p : Int × Seen=>(0 ≤ p.1 ∧ p.1 ≤ 4001) ∧ SeenB p.2) (fun p x c hp hc=>?_) ⟨⟨by simp,by simp⟩,hS⟩ h
    obtain ⟨hp1,hp2⟩:=hp
    unfold szS at hc
    have hg:=hp2.get x.num
    split at hc
    · split at hc
      · split at hc
        · injection hc with hc;subst hc;exact ⟨by simp only;omega,hp2⟩
        · split at hc
          · rename_i m' S1 hs
            injection hc with hc;subst hc
            obtain ⟨h1,h2⟩:=ih _ _ _ _ hp2 hs
            exact ⟨by simp only;omega,h2.put h1⟩
          · cases hc
      · injection hc with hc;subst hc;exact ⟨by simp only;omega,hp2⟩
    · injection hc with hc;subst hc;exact ⟨by simp only;omega,hp2⟩
attribute [local irreducible] zAT Program.underlying Ylds zBA alex zBc zBO awp zAj zBX RCall zA2 zBH zBQ zA8 zBT zBZ zBd zBr zBN
abbrev sizO (nx : Int) (L : Sto) (S : Seen) : List Ob:=stO nx L ++ [.map none (zQ4 S)]
set_option maxHeartbeats 4000000 in
theorem zLm (nx : Int) (L : Sto) (hL : ∀ p ∈ L,p.2.length ≤ 1000000) : ∀ (n : Nat) (t : List Nd) (S : Seen) (m : Int) (S' : Seen),SeenB S → t.length ≤ 1000000 → zIh n L t S = some (m,S') →
    zA2 Tryz.prog 107 [.ptr 0 0,.d (zAc t),.mp 2] (sizO nx L S) (.d (i64 m)) (sizO nx L S')
  | 0,_,_,_,_,_,_,h=>by cases h
  | n + 1,t,S,m,S',hS,ht,h=>by
    have ih:=zLm nx L hL n
    rw [zIt] at h
    refine zA1 Tryz.func107 rfl Tryz.ntmps107 Tryz.results107 rfl rfl rfl ?_
    intro wb St0 X fx
    repeat' first | apply en_n|apply zAH|apply zAB|apply zAF|apply w0|apply ay (hd:=rfl)|exact zAE rfl|exact zAC rfl|(apply zAl;exact rfl;(with_reducible exact zA0))|apply zAI
    refine zAr (α:=Nat × (Int × Seen)) (fun p=>p.1 ≤ t.length ∧ zCB (szS n L) (0,S) (t.take p.1) = some p.2 ∧ (0 ≤ p.2.1 ∧ p.2.1 ≤ 4001) ∧ SeenB p.2.2) (fun p=>[(0,.ptr 0 0),(2,.mp 2),(7,.d (i64 p.2.1)),(12,.d (zAc t)),(13,.d (i64 (t.length : Int))),(14,.d (i64 (p.1 : Int)))])
      (fun p=>[.bx (fx 0) none [.d (i64 nx),.mp 1],.map (fx 1) (mSto L),.map (fx 2) (zQ4 p.2.2)]) (fun p=>t.length - p.1) (0,(0,S)) ⟨Nat.zero_le _,by simp [zCB],⟨by simp,by simp⟩,hS⟩
      (zAO (zAA rfl (zAA rfl (zAA rfl (zAA rfl (Le_d rfl rfl (zAA rfl zAa)))))) (zAD rfl rfl (zAD rfl rfl (zAD rfl rfl zAN))) rfl rfl) ?_
    rintro ⟨i,k,S1⟩ ⟨hi,hf,hk,hS1⟩
    dsimp only at hi hf hk hS1 ⊢
    have hg:=fun a=>hS1.get a
    rcases Nat.lt_or_ge i t.length with hlt | hge
    · have hx : t[i]? = some t[i]:=List.getElem?_eq_getElem hlt
      generalize t[i] = x at hx
      obtain ⟨c,hc⟩:=zEc h (i + 1)
      have hst:=zEd hx hf
      rw [hc] at hst
      have fin : ∀ {Q : Nat × (Int × Seen) → Prop},((0 ≤ c.1 ∧ c.1 ≤ 4001) ∧ SeenB c.2) → Q (i + 1,c) → ∃ y : Nat × (Int × Seen),(y.1 ≤ t.length ∧ zCB (szS n L) (0,S) (t.take y.1) = some y.2 ∧ (0 ≤ y.2.1 ∧ y.2.1 ≤ 4001) ∧ SeenB y.2.2) ∧ t.length - y.1 < t.length - i ∧ Q y :=
        fun hb hQ=>⟨(i + 1,c),⟨hlt,hc,hb⟩,by show t.length - (i + 1) < _;omega,hQ⟩
      unfold szS at hst
      by_cases hk31 : x.kind = 31
      · rw [if_pos hk31] at hst
        cases hq : zBv L x.num with
        | none =>
          rw [hq] at hst;injection hst with hst;subst hst
          repeat' first | apply en_n|apply zAH|apply zAB|apply zAF|apply w0|(apply zA5;exact rfl;exact rfl;first|assumption|omega)|(apply zBS;exact rfl;exact rfl;first|assumption|omega)|exact zQF rfl rfl|exact zAo rfl|(apply zDT;exact zMZ hq;exact rfl;exact rfl;exact rfl;(with_reducible exact zHP);(with_reducible exact zES);(with_reducible exact zDj))|(apply aJ (hd:=rfl);(first|exact zAk rfl|exact Co_bb rfl rfl rfl|exact Co_nn rfl);exact rfl;(with_reducible exact zAW);assumption;omega;exact fun _=>rfl)|(apply zA4 (hd:=rfl) (hro:=rfl);(with_reducible exact zAp))|apply ay (hd:=rfl)|exact zAE rfl|exact zAC rfl|(apply zAf;exact rfl;(with_reducible exact zAY);exact rfl)|exact zBC rfl rfl|exact zBo rfl|exact zAh rfl rfl|exact zBP rfl rfl|exact zAZ rfl|(apply zAR;exact rfl;(with_reducible first|exact fs_1|exact fn_0|exact fn_2))|(apply zAU;exact rfl;(with_reducible first|exact zE7|exact zAe|exact zBI);exact rfl;exact rfl)|exact w1 rfl rfl|(refine w0' ?_)|(apply zAx;exact rfl;exact rfl;exact rfl;(with_reducible exact zAY);exact rfl;exact rfl;exact rfl;exact rfl)|exact zAK rfl|apply zAI|apply zAP|refine zA6 (by kernel_rfl) (by kernel_rfl) ?_|apply eb_n
          · omega
          · omega
          · exact fin ⟨by simp only;omega,hS1⟩ (zAO (zAA rfl (zAA rfl (zAA rfl (zAA rfl (zAA rfl (zAA rfl zAa)))))) (zAD rfl rfl (zAD rfl rfl (zAD rfl rfl zAN))) rfl rfl)
        | some u =>
          rw [hq] at hst
          have hgx:=hg x.num
          by_cases hs0 : (zBv S1 x.num).getD 0 > 0
          · simp only [hs0,if_true] at hst;injection hst with hst;subst hst
            repeat' first | apply en_n|apply zAH|apply zAB|apply zAF|apply w0|(apply zA5;exact rfl;exact rfl;first|assumption|omega)|(apply zEj;exact rfl;exact rfl;first|assumption|omega)|(apply zBS;exact rfl;exact rfl;first|assumption|omega)|exact zQF rfl rfl|exact zAo rfl|(apply zDT;exact zJX hq;exact rfl;exact rfl;exact rfl;(with_reducible exact zHP);(with_reducible exact zES);(with_reducible exact zDj))|(apply zEx;exact zEX S1 x.num;exact rfl;exact rfl;exact rfl;(with_reducible exact zHO);(with_reducible exact zE0);(with_reducible exact zIm))|exact zFN rfl|(apply aJ (hd:=rfl);(first|exact zAk rfl|exact Co_bb rfl rfl rfl|exact Co_nn rfl);exact rfl;(with_reducible exact zAW);assumption;omega;exact fun _=>rfl)|(apply zA4 (hd:=rfl) (hro:=rfl);(with_reducible exact zAp))|apply ay (hd:=rfl)|exact zAE rfl|exact zAC rfl|(apply zAf;exact rfl;(with_reducible exact zAY);exact rfl)|exact zBC rfl rfl|exact zBo rfl|exact zAh rfl rfl|exact zBP rfl rfl|exact zAZ rfl|(apply zAR;exact rfl;(with_reducible first|exact fs_1|exact fn_0|exact fn_2))|(apply zAU;exact rfl;(with_reducible first|exact zE7|exact zAe|exact zBI);exact rfl;exact rfl)|exact w1 rfl rfl|(refine w0' ?_)|(apply zAx;exact rfl;exact rfl;exact rfl;(with_reducible exact zAY);exact rfl;exact rfl;exact rfl;exact rfl)|exact zAK rfl|exact zAQ rfl|apply zAI|apply zAP|refine zA6 (by kernel_rfl) (by kernel_rfl) ?_|apply eb_n
            · omega
            · omega
            · exact fin ⟨by simp only;omega,hS1⟩ (zAO (zAA rfl (zAA rfl (zAA rfl (zAA rfl (zAA rfl (zAA rfl zAa)))))) (zAD rfl rfl (zAD rfl rfl (zAD rfl rfl zAN))) rfl rfl)
          · simp only [hs0,if_false] at hst
            have hu : u.length ≤ 1000000:=hL _ (zGN hq)
            cases hz : zIh n L u S1 with
            | none=>rw [hz] at hst;cases hst
            | some q =>
              obtain ⟨m',S2⟩:=q
              rw [hz] at hst;injection hst with hst;subst hst
              have hc':=ih u S1 m' S2 hS1 hu hz
              obtain ⟨hm',hS2⟩:=zMc L n u S1 m' S2 hS1 hz
              have hput : (zCK (encA i64 (putA S2 x.num m')) x.num).getD (.val (.int .i64 0)) = i64 m':=by rw [zEX,zGM,if_pos rfl];rfl
              repeat' first | (refine zPx (id:=6) [.mp 2,.ptr 3 2,.d (i64 x.num),.ptr 0 0,.d (zAc u),.mp 2] [0,1,2] (by kernel_rfl) (by kernel_rfl) rfl (.inr (by kernel_rfl)) ⟨⟨rfl,zFN rfl⟩,rfl,⟨rfl,zAR rfl fn_2⟩,rfl,⟨rfl,zAU rfl zBI rfl rfl⟩,rfl,⟨rfl,zAZ rfl⟩,rfl,⟨rfl,zAE rfl⟩,rfl,⟨rfl,zFN rfl⟩,rfl,trivial⟩ ⟨.inr ⟨rfl,rfl,zFN rfl⟩,.inr ⟨rfl,rfl,zAR rfl fn_2⟩,.inr ⟨rfl,rfl,zAU rfl zBI rfl rfl⟩,.inl (by kernel_rfl),.inl (by kernel_rfl),.inl (by kernel_rfl),trivial⟩ zJq hc' ⟨rfl,rfl,rfl,trivial⟩ rfl rfl (by decide) rfl rfl rfl rfl rfl rfl ?_)|apply en_n|apply zAH|apply zAB|apply zAF|apply w0|(apply zA5;exact rfl;exact rfl;first|assumption|omega)|(apply zDi;exact rfl;exact rfl;first|assumption|omega)|(apply zBS;exact rfl;exact rfl;first|assumption|omega)|exact zQF rfl rfl|exact zAo rfl|(apply zDT;exact zJX hq;exact rfl;exact rfl;exact rfl;(with_reducible exact zHP);(with_reducible exact zES);(with_reducible exact zDj))|(apply zEx;exact zEX S1 x.num;exact rfl;exact rfl;exact rfl;(with_reducible exact zHO);(with_reducible exact zE0);(with_reducible exact zIm))|(apply zEx;exact hput;exact rfl;exact rfl;exact rfl;(with_reducible exact zHO);(with_reducible exact zE0);(with_reducible exact zIm))|exact zFN rfl|(refine zC5 (by kernel_rfl) ?_;apply zGd;exact zFU i64 S2 x.num m';exact rfl;exact rfl;exact rfl;exact zAk rfl;(with_reducible exact zHO);(with_reducible exact zE0);exact rfl)|(apply aJ (hd:=rfl);(first|exact zAk rfl|exact Co_bb rfl rfl rfl|exact Co_nn rfl);exact rfl;(with_reducible exact zAW);assumption;omega;exact fun _=>rfl)|(apply zA4 (hd:=rfl) (hro:=rfl);(with_reducible exact zAp))|apply ay (hd:=rfl)|exact zAE rfl|exact zAC rfl|(apply zAf;exact rfl;(with_reducible exact zAY);exact rfl)|exact zBC rfl rfl|exact zBo rfl|exact zAh rfl rfl|exact zBP rfl rfl|exact zAZ rfl|(apply zAR;exact rfl;(with_reducible first|exact fs_1|exact fn_0|exact fn_2))|(apply zAU;exact rfl;(with_reducible first|exact zE7|exact zAe|exact zBI);exact rfl;exact rfl)|exact w1 rfl rfl|(refine w0' ?_)|(apply zAx;exact rfl;exact rfl;exact rfl;(with_reducible exact zAY);exact rfl;exact rfl;exact rfl;exact rfl)|exact zAK rfl|exact zAQ rfl|apply zAI|apply zAP|refine zA6 (by kernel_rfl) (by kernel_rfl) ?_|apply eb_n
              · omega
              · omega
              · exact fin ⟨by simp only;omega,hS2.put hm'⟩ (zAO (zAA rfl (zAA rfl (zAA rfl (zAA rfl (zAA rfl (zAA rfl zAa)))))) (zAD rfl rfl (zAD rfl rfl (zAD rfl rfl zAN))) rfl rfl)
      · rw [if_neg hk31] at hst;injection hst with hst;subst hst
        repeat' first | apply en_n|apply zAH|apply zAB|apply zAF|apply w0|(apply zA5;exact rfl;exact rfl;first|assumption|omega)|(apply zB4;exact rfl;exact rfl;first|assumption|omega)|exact zQF rfl rfl|exact zAo rfl|(apply zDT;exact ⟨rfl,rfl⟩;exact rfl;exact rfl;exact rfl;(with_reducible exact zHP);(with_reducible exact zES);(with_reducible exact zDj))|(apply aJ (hd:=rfl);(first|exact zAk rfl|exact Co_bb rfl rfl rfl|exact Co_nn rfl);exact rfl;(with_reducible exact zAW);assumption;omega;exact fun _=>rfl)|(apply zA4 (hd:=rfl) (hro:=rfl);(with_reducible exact zAp))|apply ay (hd:=rfl)|exact zAE rfl|exact zAC rfl|(apply zAf;exact rfl;(with_reducible exact zAY);exact rfl)|exact zBC rfl rfl|exact zAi rfl rfl|exact zBP rfl rfl|exact zAZ rfl|(apply zAR;exact rfl;(with_reducible first|exact fs_1|exact fn_0|exact fn_2))|(apply zAU;exact rfl;(with_reducible first|exact zE7|exact zAe|exact zBI);exact rfl;exact rfl)|(apply k0 (hd:=rfl);exact rfl;exact rfl)|(refine w0' ?_)|(apply zAx;exact rfl;exact rfl;exact rfl;(with_reducible exact zAY);exact rfl;exact rfl;exact rfl;exact rfl)|exact zAK rfl|apply zAI|apply zAP|refine zA6 (by kernel_rfl) (by kernel_rfl) ?_|apply eb_n
        · omega
        · omega
        · exact fin ⟨by simp only;omega,hS1⟩ (zAO (zAA rfl (zAA rfl (zAA rfl (zAA rfl (zAA rfl (zAA rfl zAa)))))) (zAD rfl rfl (zAD rfl rfl (zAD rfl rfl zAN))) rfl rfl)
    · have e : (k,S1) = (m,S'):=by rw [List.take_of_length_le hge,h] at hf;injection hf with hf;exact hf.symm
      injection e with e1 e2;subst e1;subst e2
      repeat' first | apply en_n|apply zAH|apply zAB|apply zAF|apply w0|(apply zBn;exact rfl;exact rfl;first|assumption|omega)|apply ay (hd:=rfl)|exact zAE rfl|exact zAC rfl|exact zAQ rfl|apply zAM|apply zAt|apply en_e|apply eb_e
      exact zAq (zAO (zAA rfl zAa) (zAD rfl rfl (zAD rfl rfl (zAD rfl rfl zAN))) rfl rfl)
end Go.Proofs.YtblomnkamngnbaaGreatDoor
namespace Go.Proofs.YtblomnkamngnbaaGreatDoor
open Go.Sx
def inS (n : Nat) (L : Sto) (v : Int) (p : Bool × Seen) (x : Nd) : Option (Bool × Seen) :=
  if p.1 then some p
  else if x.kind ≠ 31 ∨ (zBv p.2 x.num).getD 0 > 0 then some p
  else if x.num = v then some (true,putA p.2 x.num ((zBv p.2 x.num).getD 0 + 1))
  else inF n L v ((zBv L x.num).getD []) (putA p.2 x.num ((zBv p.2 x.num).getD 0 + 1))
theorem zMz (n : Nat) (L : Sto) (v : Int) (t : List Nd) (S : Seen) : inF (n + 1) L v t S = zCB (inS n L v) (false,S) t:=rfl
theorem zMy {n : Nat} {L : Sto} {v : Int} : ∀ {t : List Nd} {S : Seen} {r : Bool × Seen},zCB (inS n L v) (true,S) t = some r → r = (true,S)
  | [],S,r,h=>by simp only [zCB,Option.some.injEq] at h;exact h.symm
  | x :: t,S,r,h=>by
    simp only [zCB,inS,if_true] at h
    exact zMy h
theorem zIC {n : Nat} {L : Sto} {v : Int} : ∀ {t : List Nd} {b : Bool × Seen} {r : Bool × Seen} {i : Nat} {S : Seen},zCB (inS n L v) b t = some r → zCB (inS n L v) b (t.take i) = some (true,S) → r = (true,S)
  | [],b,r,i,S,h,h2=>by simp only [List.take_nil] at h2;rw [h] at h2;exact Option.some.inj h2
  | x :: t,b,r,0,S,h,h2=>by
    simp only [List.take_zero,zCB,Option.some.injEq] at h2;subst h2
    exact zMy h
  | x :: t,b,r,i + 1,S,h,h2=>by
    simp only [List.take_succ_cons,zCB] at h h2
    cases hf : inS n L v b x with
    | none=>rw [hf] at h;cases h
    | some c=>rw [hf] at h h2;exact zIC h h2
def Small (S : Seen) : Prop:=∀ a w,zBv S a = some w → 0 ≤ w ∧ w ≤ 1
theorem Small.put {S : Seen} (h : Small S) {a : Int} (hv : ¬ (zBv S a).getD 0 > 0) : Small (putA S a ((zBv S a).getD 0 + 1)):=fun b w hb=>by
  rw [zGM] at hb
  split at hb
  · injection hb with hb;subst hb
    cases hq : zBv S a with
    | none=>simp
    | some v=>rw [hq] at hv;simp only [Option.getD_some] at hv ⊢;have:=h a v hq;omega
  · exact h b w hb
theorem zKr (L : Sto) (v : Int) : ∀ (n : Nat) (t : List Nd) (S : Seen) (r : Bool × Seen),Small S → inF n L v t S = some r → Small r.2
  | 0,_,_,_,_,h=>by cases h
  | n + 1,t,S,r,hS,h=>by
    have ih:=zKr L v n
    rw [zMz] at h
    refine zEe (J:=fun p : Bool × Seen=>Small p.2) (fun p x c hp hc=>?_) hS h
    unfold inS at hc
    split at hc
    · injection hc with hc;subst hc;exact hp
    · split at hc
      · injection hc with hc;subst hc;exact hp
      · rename_i h2
        have h2' : ¬ (zBv p.2 x.num).getD 0 > 0:=fun h=>h2 (.inr h)
        split at hc
        · injection hc with hc;subst hc;exact hp.put h2'
        · exact ih _ _ _ (hp.put h2') hc
attribute [local irreducible] zAT Program.underlying Ylds zBA alex zBc zBO awp zAj zBX RCall zA2 zBH zBQ zA8 zBT zBZ zBd zBr zBN
abbrev parO (nx : Int) (L : Sto) (v : Int) (S : Seen) : List Ob:=[.bx none none [.mp 6],.bx none none [.d (i64 v)],.bx none none [.clo 173 [0,1,2,3]],.bx none none [.ptr 4 0],.bx none none [.d (i64 nx),.mp 5],.map none (mSto L),.map none (zQ4 S)]
set_option maxHeartbeats 4000000 in
theorem zMm (nx : Int) (L : Sto) (v : Int) (hL : ∀ p ∈ L,p.2.length ≤ 1000000) : ∀ (n : Nat) (t : List Nd) (S : Seen) (b : Bool) (S' : Seen),Small S → t.length ≤ 1000000 → inF n L v t S = some (b,S') →
    zA2 Tryz.prog 173 [.d (zAc t),.ptr 0 0,.ptr 1 0,.ptr 2 0,.ptr 3 0] (parO nx L v S) (.d (bl b)) (parO nx L v S')
  | 0,_,_,_,_,_,_,h=>by cases h
  | n + 1,t,S,b,S',hS,ht,h=>by
    have ih:=zMm nx L v hL n
    have hinv:=h
    rw [zMz] at h
    refine zA1 Tryz.func173 rfl Tryz.ntmps173 Tryz.results173 rfl rfl rfl ?_
    intro wb St0 X fx
    repeat' first | apply en_n|apply zAH|apply zAB|apply zAF|apply w0|apply ay (hd:=rfl)|exact zAE rfl|exact zAC rfl|(apply zAl;exact rfl;(with_reducible exact zA0))|apply zAI
    refine zAr (α:=Nat × Seen) (fun p=>p.1 ≤ t.length ∧ zCB (inS n L v) (false,S) (t.take p.1) = some (false,p.2) ∧ Small p.2) (fun p=>[(1,.ptr 0 0),(2,.ptr 1 0),(3,.ptr 2 0),(4,.ptr 3 0),(9,.d (zAc t)),(10,.d (i64 (t.length : Int))),(11,.d (i64 (p.1 : Int)))])
      (fun p=>[.bx (fx 0) none [.mp 6],.bx (fx 1) none [.d (i64 v)],.bx (fx 2) none [.clo 173 [0,1,2,3]],.bx (fx 3) none [.ptr 4 0],.bx (fx 4) none [.d (i64 nx),.mp 5],.map (fx 5) (mSto L),.map (fx 6) (zQ4 p.2)]) (fun p=>t.length - p.1) (0,S) ⟨Nat.zero_le _,by simp [zCB],hS⟩
      (zAO (zAA rfl (zAA rfl (zAA rfl (zAA rfl (zAA rfl (Le_d rfl rfl (zAA rfl zAa))))))) (zAD rfl rfl (zAD rfl rfl (zAD rfl rfl (zAD rfl rfl (zAD rfl rfl (zAD rfl rfl (zAD rfl rfl zAN))))))) rfl rfl) ?_
    rintro ⟨i,S1⟩ ⟨hi,hf,hS1⟩
    dsimp only at hi hf hS1 ⊢
    rcases Nat.lt_or_ge i t.length with hlt | hge
    · have hx : t[i]? = some t[i]:=List.getElem?_eq_getElem hlt
      generalize t[i] = x at hx
      obtain ⟨c,hc⟩:=zEc h (i + 1)
      have hst:=zEd hx hf
      rw [hc] at hst
      have fin : ∀ {Q : Nat × Seen → Prop} {S2 : Seen},c = (false,S2) → Small S2 → Q (i + 1,S2) → ∃ y : Nat × Seen,(y.1 ≤ t.length ∧ zCB (inS n L v) (false,S) (t.take y.1) = some (false,y.2) ∧ Small y.2) ∧ t.length - y.1 < t.length - i ∧ Q y :=
        fun {Q S2} he hb hQ=>⟨(i + 1,S2),⟨hlt,by rw [hc,he],hb⟩,by show t.length - (i + 1) < _;omega,hQ⟩
      unfold inS at hst
      simp only [Bool.false_eq_true,if_false] at hst
      have hsm : 0 ≤ (zBv S1 x.num).getD 0 ∧ (zBv S1 x.num).getD 0 ≤ 1:=by
        cases hq : zBv S1 x.num with
        | none=>simp
        | some w=>simpa using hS1 _ _ hq
      by_cases hk : x.kind = 31
      · by_cases hs0 : (zBv S1 x.num).getD 0 > 0
        · rw [if_pos (.inr hs0)] at hst;injection hst with hst
          repeat' first | apply en_n|apply zAH|apply zAB|apply zAF|apply w0|(apply zA5;exact rfl;exact rfl;first|assumption|omega)|(apply zEj;exact rfl;exact rfl;first|assumption|omega)|(apply zBS;exact rfl;exact rfl;first|assumption|omega)|(apply zEx;exact zEX S1 x.num;exact rfl;exact rfl;exact rfl;(with_reducible exact zHO);(with_reducible exact zE0);(with_reducible exact zIm))|(apply aJ (hd:=rfl);(first|exact zAk rfl|exact Co_bb rfl rfl rfl|exact Co_nn rfl);exact rfl;(with_reducible exact zAW);assumption;omega;exact fun _=>rfl)|(apply zA4 (hd:=rfl) (hro:=rfl);(with_reducible exact zAp))|apply ay (hd:=rfl)|exact zAE rfl|(apply zAf;exact rfl;(with_reducible exact zAY);exact rfl)|exact zBC rfl rfl|exact zAh rfl rfl|(apply zAR;exact rfl;(with_reducible first|exact fn_0|exact fn_2))|(apply zAU;exact rfl;(with_reducible first|exact zMW|exact zAe|exact zBI);exact rfl;exact rfl)|exact w1 rfl rfl|(refine w0' ?_)|(apply zAx;exact rfl;exact rfl;exact rfl;(with_reducible exact zAY);exact rfl;exact rfl;exact rfl;exact rfl)|exact zAK rfl|apply zAI|apply zAP|apply zAt|apply en_e|apply eb_e
          · omega
          · exact fin hst hS1 (zAO (zAA rfl (zAA rfl (zAA rfl (zAA rfl (zAA rfl (zAA rfl (zAA rfl zAa))))))) (zAD rfl rfl (zAD rfl rfl (zAD rfl rfl (zAD rfl rfl (zAD rfl rfl (zAD rfl rfl (zAD rfl rfl zAN))))))) rfl rfl)
        · rw [if_neg (by omega)] at hst
          have hS2:=hS1.put hs0
          by_cases hv : x.num = v
          · rw [if_pos hv] at hst;injection hst with hst
            have hr:=zIC h (i:=i + 1) (by rw [hc,hst])
            injection hr with e1 e2;subst e1;subst e2
            repeat' first | apply en_n|apply zAH|apply zAB|apply zAF|apply w0|(apply zA5;exact rfl;exact rfl;first|assumption|omega)|(apply zDi;exact rfl;exact rfl;first|assumption|omega)|(apply zBD;exact rfl;exact rfl;first|assumption|omega)|(apply zBS;exact rfl;exact rfl;first|assumption|omega)|(apply zEx;exact zEX S1 x.num;exact rfl;exact rfl;exact rfl;(with_reducible exact zHO);(with_reducible exact zE0);(with_reducible exact zIm))|(apply zGd;exact zFU i64 S1 x.num ((zBv S1 x.num).getD 0 + 1);exact rfl;exact rfl;exact rfl;exact zAk rfl;(with_reducible exact zHO);(with_reducible exact zE0);exact rfl)|(apply aJ (hd:=rfl);(first|exact zAk rfl|exact Co_bb rfl rfl rfl|exact Co_nn rfl);exact rfl;(with_reducible exact zAW);assumption;omega;exact fun _=>rfl)|(apply zA4 (hd:=rfl) (hro:=rfl);(with_reducible exact zAp))|apply ay (hd:=rfl)|exact zAE rfl|exact zAC rfl|(apply zAf;exact rfl;(with_reducible exact zAY);exact rfl)|exact zBC rfl rfl|exact zAi rfl rfl|exact zAh rfl rfl|(apply zAR;exact rfl;(with_reducible first|exact fn_0|exact fn_2))|(apply zAU;exact rfl;(with_reducible first|exact zMW|exact zAe|exact zBI);exact rfl;exact rfl)|exact w1 rfl rfl|(apply k0 (hd:=rfl);exact rfl;exact rfl)|(refine w0' ?_)|(apply zAx;exact rfl;exact rfl;exact rfl;(with_reducible exact zAY);exact rfl;exact rfl;exact rfl;exact rfl)|exact zAK rfl|exact zAQ rfl|apply zAI|apply zAP|apply zAM|refine zA6 (by kernel_rfl) (by kernel_rfl) ?_|apply en_r|apply eb_r
            · omega
            · exact zAq (zAO (zAA rfl zAa) (zAD rfl rfl (zAD rfl rfl (zAD rfl rfl (zAD rfl rfl (zAD rfl rfl (zAD rfl rfl (zAD rfl rfl zAN))))))) rfl rfl)
          · rw [if_neg hv] at hst
            obtain ⟨b2,S2⟩:=c
            have hu : ((zBv L x.num).getD []).length ≤ 1000000:=by
              cases hq : zBv L x.num with
              | none=>simp
              | some u=>exact hL _ (zGN hq)
            have hc':=ih _ _ b2 S2 hS2 hu hst.symm
            have hS3:=zKr L v n _ _ _ hS2 hst.symm
            repeat' first | apply en_n|apply zAH|apply zAB|apply zAF|apply w0|(apply zA5;exact rfl;exact rfl;first|assumption|omega)|(apply zDi;exact rfl;exact rfl;first|assumption|omega)|(apply zA9;exact rfl;exact rfl;first|assumption|omega)|(apply zBS;exact rfl;exact rfl;first|assumption|omega)|exact zAo rfl|(apply zEx;exact zEX S1 x.num;exact rfl;exact rfl;exact rfl;(with_reducible exact zHO);(with_reducible exact zE0);(with_reducible exact zIm))|(apply zGd;exact zFU i64 S1 x.num ((zBv S1 x.num).getD 0 + 1);exact rfl;exact rfl;exact rfl;exact zAk rfl;(with_reducible exact zHO);(with_reducible exact zE0);exact rfl)|(apply zEx;exact (zGJ L x.num).1;exact rfl;exact rfl;exact rfl;(with_reducible exact zHP);(with_reducible exact zES);(with_reducible exact zDj))|(refine zC5 (by kernel_rfl) ?_;refine zP7 [0,1,2,3,4,5,6] [0,1,2,3] rfl rfl zM6 (hc') rfl ?_ rfl rfl (by decide) rfl rfl rfl rfl rfl rfl ?_;(repeat (refine zAL rfl ?_));exact zAS)|(apply aJ (hd:=rfl);(first|exact zAk rfl|exact Co_bb rfl rfl rfl|exact Co_nn rfl);exact rfl;(with_reducible exact zAW);assumption;omega;exact fun _=>rfl)|(apply zA4 (hd:=rfl) (hro:=rfl);(with_reducible exact zAp))|apply ay (hd:=rfl)|exact zAE rfl|exact zAC rfl|(apply zAf;exact rfl;(with_reducible exact zAY);exact rfl)|exact zBC rfl rfl|exact zAh rfl rfl|(apply zAR;exact rfl;(with_reducible first|exact fs_1|exact fn_0|exact fn_2))|(apply zAU;exact rfl;(with_reducible first|exact zE7|exact zMW|exact zTX|exact zSU|exact zAe|exact zBI);exact rfl;exact rfl)|exact w1 rfl rfl|(refine w0' ?_)|(apply zAx;exact rfl;exact rfl;exact rfl;(with_reducible exact zAY);exact rfl;exact rfl;exact rfl;exact rfl)|exact zAK rfl|exact zAQ rfl|(apply zCZ;exact rfl;(intro hb);rotate_left;(intro hb);rotate_right)|apply zAI|apply zAP|apply zAM|refine zA6 (by kernel_rfl) (by kernel_rfl) ?_|apply en_r|apply eb_n|apply eb_r
            · omega
            · subst hb
              have hr:=zIC h (i:=i + 1) hc
              injection hr with e1 e2;subst e1;subst e2
              exact zAq (zAO (zAA rfl zAa) (zAD rfl rfl (zAD rfl rfl (zAD rfl rfl (zAD rfl rfl (zAD rfl rfl (zAD rfl rfl (zAD rfl rfl zAN))))))) rfl rfl)
            · omega
            · subst hb
              exact fin rfl hS3 (zAO (zAA rfl (zAA rfl (zAA rfl (zAA rfl (zAA rfl (zAA rfl (zAA rfl zAa))))))) (zAD rfl rfl (zAD rfl rfl (zAD rfl rfl (zAD rfl rfl (zAD rfl rfl (zAD rfl rfl (zAD rfl rfl zAN))))))) rfl rfl)
      · rw [if_pos (.inl hk)] at hst;injection hst with hst
        repeat' first | apply en_n|apply zAH|apply zAB|apply zAF|apply w0|(apply k0u (hd:=rfl);exact rfl;exact rfl)|(apply zA5;exact rfl;exact rfl;first|assumption|omega)|(apply zB4;exact rfl;exact rfl;first|assumption|omega)|(apply aJ (hd:=rfl);(first|exact zAk rfl|exact Co_bb rfl rfl rfl|exact Co_nn rfl);exact rfl;(with_reducible exact zAW);assumption;omega;exact fun _=>rfl)|(apply zA4 (hd:=rfl) (hro:=rfl);(with_reducible exact zAp))|apply ay (hd:=rfl)|exact zAE rfl|(apply zAf;exact rfl;(with_reducible exact zAY);exact rfl)|exact zBC rfl rfl|exact zAi rfl rfl|(apply zAR;exact rfl;(with_reducible exact fn_0))|(apply zAU;exact rfl;(with_reducible exact zAe);exact rfl;exact rfl)|(refine w0' ?_)|(apply zAx;exact rfl;exact rfl;exact rfl;(with_reducible exact zAY);exact rfl;exact rfl;exact rfl;exact rfl)|exact zAK rfl|apply zAI|apply zAP|apply zAt|apply en_e|apply eb_e
        · omega
        · exact fin hst hS1 (zAO (zAA rfl (zAA rfl (zAA rfl (zAA rfl (zAA rfl (zAA rfl (zAA rfl zAa))))))) (zAD rfl rfl (zAD rfl rfl (zAD rfl rfl (zAD rfl rfl (zAD rfl rfl (zAD rfl rfl (zAD rfl rfl zAN))))))) rfl rfl)
    · have e : (false,S1) = (b,S'):=by rw [List.take_of_length_le hge,h] at hf;injection hf with hf;exact hf.symm
      injection e with e1 e2;subst e1;subst e2
      repeat' first | apply en_n|apply zAH|apply zAB|apply zAF|apply w0|(apply zBn;exact rfl;exact rfl;first|assumption|omega)|apply ay (hd:=rfl)|exact zAC rfl|exact zAQ rfl|apply zAM|apply zAt|apply en_e|apply eb_e
      exact zAq (zAO (zAA rfl zAa) (zAD rfl rfl (zAD rfl rfl (zAD rfl rfl (zAD rfl rfl (zAD rfl rfl (zAD rfl rfl (zAD rfl rfl zAN))))))) rfl rfl)
set_option maxHeartbeats 8000000 in
theorem zOx (nx : Int) (L : Sto) (v : Int) (hL : ∀ p ∈ L,p.2.length ≤ 1000000) (n : Nat) (t : List Nd) (b : Bool) (S' : Seen) (ht : t.length ≤ 1000000) (h : inF n L v t [] = some (b,S')) :
    zA2 Tryz.prog 158 [.ptr 0 0,.d (i64 v),.d (zAc t)] (stO nx L) (.d (bl b)) (stO nx L):=by
  refine zA1 Tryz.func158 rfl Tryz.ntmps158 Tryz.results158 rfl rfl rfl ?_
  intro wb St0 X fx
  have hc:=zMm nx L v hL n t [] b S' (fun a w h=>by cases h) ht h
  repeat' first | apply en_n|apply zAH|apply zAB|apply zAF|apply w0|(apply zGe (hd:=rfl) (hro:=rfl);(with_reducible exact zHO);(with_reducible exact zE0))|(refine zP7 [5,3,6,2,0,1,4] [0,1,2,3] rfl rfl zM6 (hc) rfl ?_ rfl rfl (by decide) rfl rfl rfl rfl rfl rfl ?_;(repeat (refine zAL rfl ?_));exact zAS)|(apply aBox (hd:=rfl) (hro:=rfl);exact rfl;exact rfl)|(apply zA4 (hd:=rfl) (hro:=rfl);(with_reducible first|exact zTP|exact zTS))|apply ay (hd:=rfl)|exact zAE rfl|exact zAC rfl|(apply zAU;exact rfl;(with_reducible exact zSU);exact rfl;exact rfl)|exact zF3 rfl|(refine w0' ?_)|(apply zAx;exact rfl;exact rfl;exact rfl;(with_reducible first|exact zMW|exact zSU);exact rfl;exact rfl;exact rfl;exact rfl)|apply zAM
  exact zAq (zAO (zAA rfl zAa) (zAD rfl rfl (zAD rfl rfl zAN)) rfl rfl)
end Go.Proofs.YtblomnkamngnbaaGreatDoor
namespace Go.Proofs.YtblomnkamngnbaaGreatDoor
open Go.Sx
def kidS (n : Nat) (a b : List Nd) (p : Int × Sto) (i : Nat) : Option (Int × Sto) :=
  if p.1 ≠ 0 then some p else
    match (zBV a 0)[i]?,(zBV b 0)[i]? with
    | some k,some l=>(match cutO a k (endF a k),cutO b l (endF b l) with
      | some u,some v=>zJb n p.2 u v
      | _,_=>none)
    | _,_=>none
theorem zIv (n : Nat) (L : Sto) (a0 b0 : List Nd) : zJb (n + 1) L a0 b0 = match zJo n L a0,zJo n L b0 with
    | some a,some b=>match a[0]?,b[0]? with
      | some x,some y =>
        if a.length > 4000 ∨ b.length > 4000 then none
        else if x.kind = 31 ∧ y.kind = 31 then (if x.num ≠ y.num then some (0,putA L (max x.num y.num) (varN (min x.num y.num))) else some (0,L))
        else if y.kind = 31 then zJb n L b a
        else if x.kind = 31 then (match inF n L x.num b [] with
          | some (true,_)=>some (91,L)
          | some (false,_)=>some (0,putA L x.num b)
          | none=>none)
        else if x ≠ y then some (91,L)
        else zCB (kidS n a b) (0,L) (List.range (zBV a 0).length)
      | _,_=>none
    | _,_=>none:=rfl
def StoB (L : Sto) : Prop:=∀ p ∈ L,p.2.length ≤ 1000000
theorem zMg {β : Type} : ∀ {L : List (Int × β)} {a : Int} {d : β} {p : Int × β},p ∈ putA L a d → p ∈ L ∨ p = (a,d)
  | [],a,d,p,h=>by simp [putA] at h;exact .inr h
  | (k,e) :: r,a,d,p,h=>by
    unfold putA at h
    split at h
    · rename_i hk;subst hk
      rcases List.mem_cons.1 h with h | h
      · exact .inr h
      · exact .inl (by simp [h])
    · rcases List.mem_cons.1 h with h | h
      · exact .inl (by simp [h])
      · rcases zMg h with h | h
        · exact .inl (by simp [h])
        · exact .inr h
theorem StoB.put {L : Sto} (h : StoB L) {a : Int} {t : List Nd} (ht : t.length ≤ 1000000) : StoB (putA L a t):=fun p hp=>by
  rcases zMg hp with h1 | h1
  · exact h p h1
  · rw [h1];exact ht
theorem zJa : ∀ (n : Nat) (L : Sto) (a b : List Nd) (r : Int × Sto),StoB L → zJb n L a b = some r → StoB r.2
  | 0,_,_,_,_,_,h=>by cases h
  | n + 1,L,a0,b0,r,hL,h=>by
    have ih:=zJa n
    rw [zIv] at h
    split at h
    · rename_i a b _ _
      split at h
      · rename_i x y _ _
        split at h
        · cases h
        · split at h
          · split at h
            · injection h with h;subst h;exact hL.put (by simp [varN])
            · injection h with h;subst h;exact hL
          · split at h
            · exact ih _ _ _ _ hL h
            · split at h
              · split at h
                · injection h with h;subst h;exact hL
                · injection h with h;subst h;exact hL.put (by omega)
                · cases h
              · split at h
                · injection h with h;subst h;exact hL
                · refine zEe (J:=fun p : Int × Sto=>StoB p.2) (fun p i c hp hc=>?_) hL h
                  unfold kidS at hc
                  split at hc
                  · injection hc with hc;subst hc;exact hp
                  · split at hc
                    · split at hc
                      · exact ih _ _ _ _ hp hc
                      · cases hc
                    · cases hc
      · cases h
    · cases h
theorem zEI {P : Program} {η : List Ob} {σ : Sl} {dst : Option Nat} {ty : TypeId} {pos : String} {after : Array Edge} {gd : Option (Nat × Bool)} {t : TypeId} {p q : Operand} {a : List Nd} {x : Nd} (hx : a[0]? = some x) (hp : oval σ p = .d (zAc a)) (hq : oval σ q = .d (i64 0)) (hs : zBG P t = some 4) :
    Ylds P η σ ⟨dst,.indexAddr t p q,ty,pos,after,gd⟩ (.rptr x.av.flat) :=
  zGh (xs:=a.map Nd.av) (zAk hp) hq hs (by simp) (by show (a.map Nd.av)[(0 : Int).toNat]? = _;rw [Int.toNat_zero,List.getElem?_map,hx];rfl) (fun d hd=>by obtain ⟨v,_,rfl⟩:=List.mem_map.1 hd;rfl)
theorem zHA {P : Program} {η : List Ob} {σ : Sl} {dst : Option Nat} {ty : TypeId} {pos : String} {after : Array Edge} {gd : Option (Nat × Bool)} {t : TypeId} {p q : Operand} {A : List Int} {i : Nat} {k : Int} (hk : A[i]? = some k) (hp : oval σ p = .d (zBj A)) (hq : oval σ q = .d (i64 (i : Int))) (hs : zBG P t = some 1) :
    Ylds P η σ ⟨dst,.indexAddr t p q,ty,pos,after,gd⟩ (.rptr (ival k).flat) :=
  zGh (xs:=A.map ival) (zAk hp) hq hs (by omega) (by show (A.map ival)[((i : Int)).toNat]? = _;rw [Int.toNat_natCast,List.getElem?_map,hk];rfl) (fun d hd=>by obtain ⟨v,_,rfl⟩:=List.mem_map.1 hd;rfl)
theorem zQI {P : Program} {η : List Ob} {σ : Sl} {dst : Option Nat} {ty : TypeId} {pos : String} {after : Array Edge} {gd : Option (Nat × Bool)} {t : TypeId} {p q r : Operand} {A u : List Nd} {k l : Int} (hu : cutO A k l = some u) (hp : oval σ p = .d (zAc A)) (hq : oval σ q = .d (i64 k)) (hr : oval σ r = .d (i64 l)) (hs : zBG P t = some 4) :
    Ylds P η σ ⟨dst,.slice t p (some q) (some r) none,ty,pos,after,gd⟩ (.d (zAc u)):=by
  unfold cutO at hu
  split at hu
  · rename_i h
    injection hu with hu;subst hu
    exact Y_sl (enc:=Nd.av) (zAk hp) hs hq hr (fun _=>rfl) h
  · cases hu
theorem kids_len (L : List Nd) (a : Int) : (zBV L a).length ≤ L.length:=by
  by_cases h : endF L a < 0
  · rw [zBV,if_pos h];simp
  · obtain ⟨k,x,_,_,h1,h2,_,_,h3⟩:=zKn h
    rw [h3,List.length_map,List.length_range];omega
theorem zQC {η : List Ob} {σ : Sl} {dst : Option Nat} {ty : TypeId} {pos : String} {after : Array Edge} {gd : Option (Nat × Bool)} {x y : Operand} {yt : TypeId} {a b : Nd} (h : a ≠ b) (hx : oval σ x = .d a.av) (hy : oval σ y = .d b.av) :
    Ylds Tryz.prog η σ ⟨dst,.binOp .neq 40 x y yt,ty,pos,after,gd⟩ (.d (.val (.bool true))):=by
  have:=zKC (η:=η) (dst:=dst) (ty:=ty) (pos:=pos) (after:=after) (gd:=gd) (yt:=yt) hx hy
  rwa [decide_eq_true h] at this
theorem zQD {η : List Ob} {σ : Sl} {dst : Option Nat} {ty : TypeId} {pos : String} {after : Array Edge} {gd : Option (Nat × Bool)} {x y : Operand} {yt : TypeId} {a b : Nd} (h : a = b) (hx : oval σ x = .d a.av) (hy : oval σ y = .d b.av) :
    Ylds Tryz.prog η σ ⟨dst,.binOp .neq 40 x y yt,ty,pos,after,gd⟩ (.d (.val (.bool false))):=by
  have:=zKC (η:=η) (dst:=dst) (ty:=ty) (pos:=pos) (after:=after) (gd:=gd) (yt:=yt) hx hy
  rwa [decide_eq_false (by simp [h])] at this
theorem zIO {α β : Type} {f : β → α → Option β} : ∀ (L1 L2 : List α) (b : β),zCB f b (L1 ++ L2) = (zCB f b L1).bind fun c=>zCB f c L2
  | [],L2,b=>rfl
  | x :: L1,L2,b=>by
    simp only [List.cons_append,zCB]
    cases f b x with
    | none=>rfl
    | some c=>exact zIO L1 L2 c
theorem zJF {α β : Type} {f : β → α → Option β} {c : β} (h : ∀ x,f c x = some c) : ∀ L : List α,zCB f c L = some c
  | []=>rfl
  | x :: L=>by simp only [zCB,h];exact zJF h L
theorem zPX {α β : Type} {f : β → α → Option β} {L : List α} {b c r : β} {i : Nat} (h : ∀ x,f c x = some c) (hc : zCB f b (L.take i) = some c) (hr : zCB f b L = some r) : r = c:=by
  rw [← List.take_append_drop i L,zIO,hc,Option.bind_some,zJF h] at hr
  injection hr with hr;exact hr.symm
theorem zTj {n : Nat} {a b : List Nd} {S : Sto} {i : Nat} {c : Int × Sto} (h : kidS n a b (0,S) i = some c) : ∃ k l u v,(zBV a 0)[i]? = some k ∧ (zBV b 0)[i]? = some l ∧ cutO a k (endF a k) = some u ∧ cutO b l (endF b l) = some v ∧ zJb n S u v = some c:=by
  unfold kidS at h
  simp only [ne_eq,not_true,if_false] at h
  split at h
  · rename_i k l hk hl
    split at h
    · rename_i u v hu hv
      exact ⟨k,l,u,v,hk,hl,hu,hv,h⟩
    · cases h
  · cases h
attribute [local irreducible] zAT Program.underlying Ylds zBA alex zBc zBO awp zAj zBX RCall zA2 zBH zBQ zA8 zBT zBZ zBd zBr zBN
abbrev zsN : List Value:=[.int .i64 0,.string ByteArray.empty,.int .i64 0,.int .i64 0]
def ndC (x : Nd) : List SV:=[.d (i64 x.kind),.d (.val (.string ⟨x.text.toArray⟩)),.d (i64 x.num),.d (i64 x.kids)]
set_option maxHeartbeats 8000000 in
theorem zOj (nx : Int) : ∀ (n : Nat) (L : Sto) (a0 b0 : List Nd) (e : Int) (L' : Sto),StoB L → zJb n L a0 b0 = some (e,L') →
    zA2 Tryz.prog 131 [.ptr 0 0,.d (zAc a0),.d (zAc b0)] (stO nx L) (.d (i64 e)) (stO nx L')
  | 0,_,_,_,_,_,_,h=>by cases h
  | n + 1,L,a0,b0,e,L',hL,h=>by
    have ih:=zOj nx n
    rw [zIv] at h
    split at h
    · rename_i a b ha hb0
      split at h
      · rename_i x y hx hy
        split at h
        · cases h
        · rename_i hlen
          have hla : a.length ≤ 2000000:=by omega
          have hlb : b.length ≤ 2000000:=by omega
          have hhA:=zPG nx L n a0 a ha
          have hhB:=zPG nx L n b0 b hb0
          refine zA1 Tryz.func131 rfl Tryz.ntmps131 Tryz.results131 rfl rfl rfl ?_
          intro wb St0 X fx
          split at h
          · rename_i hk
            obtain ⟨hk1,hk2⟩:=hk
            split at h
            · rename_i hne
              injection h with h;injection h with h1 h2;subst h1;subst h2
              repeat' first | (refine zB0 (id:=2) [.y (.d (zAc a)),.y (.rptr x.av.flat),.y (.d (.agg (x.av.flat.take 4))),.y (.d (zAc b)),.y (.rptr y.av.flat),.y (.d (.agg (y.av.flat.take 4))),.mk ⟨7,zsN,40,ndC x⟩ (some 8),.mk ⟨8,zsN,40,zsN.map cst⟩ none,.st 6 ⟨7,zsN,40,ndC x⟩] (by kernel_rfl) (by kernel_rfl) (.inr (by kernel_rfl)) ⟨⟨rfl,zAE rfl⟩,rfl,⟨rfl,zEI hx rfl rfl zAW⟩,rfl,⟨rfl,zAf rfl zAY rfl⟩,rfl,⟨rfl,zAE rfl⟩,rfl,⟨rfl,zEI hy rfl rfl zAW⟩,rfl,⟨rfl,zAf rfl zAY rfl⟩,rfl,⟨rfl,rfl,rfl,zAp,by kernel_rfl,rfl⟩,rfl,⟨rfl,rfl,rfl,zAp,by kernel_rfl,rfl⟩,rfl,⟨⟨_,_,_,_,_,rfl,rfl,rfl,zAY,rfl⟩,rfl,rfl,rfl,rfl,rfl⟩,trivial⟩ ?_)|apply en_n|apply zAH|apply zAB|apply zAF|apply w0|(refine zC5 (by kernel_rfl) ?_;apply zAx;exact rfl;exact rfl;exact rfl;(with_reducible exact zAY);exact rfl;exact rfl;exact rfl;exact rfl)|(apply zBD;exact rfl;exact rfl;first|assumption|omega)|(apply zB4;exact rfl;exact rfl;first|assumption|omega)|exact zAo rfl|(refine zBB [0,1] [] rfl rfl zDJ (hhA) rfl ?_ rfl (by decide) rfl rfl rfl rfl;(repeat (refine zAL rfl ?_));exact zAS)|(refine zBB [0,1] [] rfl rfl zDJ (hhB) rfl ?_ rfl (by decide) rfl rfl rfl rfl;(repeat (refine zAL rfl ?_));exact zAS)|exact zUM rfl rfl|exact zQF rfl rfl|(apply zAV (hb:=zIF) (hc:=zHp (min x.num y.num)))|(refine zC5 (by kernel_rfl) ?_;apply zGd;exact zFU zAc L (max x.num y.num) (varN (min x.num y.num));exact rfl;exact rfl;exact rfl;exact zAk rfl;(with_reducible exact zHP);(with_reducible exact zES);exact rfl)|apply ay (hd:=rfl)|exact zAE rfl|exact zAC rfl|exact zAi rfl rfl|exact zAZ rfl|(apply zAR;exact rfl;(with_reducible first|exact fs_1|exact fn_0|exact fn_2))|(apply zAU;exact rfl;(with_reducible first|exact zE7|exact zAe|exact zBI);exact rfl;exact rfl)|exact w1 rfl rfl|(refine w0' ?_)|exact zAK rfl|apply zAI|apply zAM|refine zA6 (by kernel_rfl) (by kernel_rfl) ?_|apply en_r|apply eb_r|exact zAG|refine zAX rfl ?_
              exact zAq (zAO (zAA rfl zAa) (zAD rfl rfl (zAD rfl rfl zAN)) rfl rfl)
            · rename_i hne
              have hne : x.num = y.num:=Classical.byContradiction hne
              injection h with h;injection h with h1 h2;subst h1;subst h2
              repeat' first | (refine zB0 (id:=2) [.y (.d (zAc a)),.y (.rptr x.av.flat),.y (.d (.agg (x.av.flat.take 4))),.y (.d (zAc b)),.y (.rptr y.av.flat),.y (.d (.agg (y.av.flat.take 4))),.mk ⟨7,zsN,40,ndC x⟩ (some 8),.mk ⟨8,zsN,40,zsN.map cst⟩ none,.st 6 ⟨7,zsN,40,ndC x⟩] (by kernel_rfl) (by kernel_rfl) (.inr (by kernel_rfl)) ⟨⟨rfl,zAE rfl⟩,rfl,⟨rfl,zEI hx rfl rfl zAW⟩,rfl,⟨rfl,zAf rfl zAY rfl⟩,rfl,⟨rfl,zAE rfl⟩,rfl,⟨rfl,zEI hy rfl rfl zAW⟩,rfl,⟨rfl,zAf rfl zAY rfl⟩,rfl,⟨rfl,rfl,rfl,zAp,by kernel_rfl,rfl⟩,rfl,⟨rfl,rfl,rfl,zAp,by kernel_rfl,rfl⟩,rfl,⟨⟨_,_,_,_,_,rfl,rfl,rfl,zAY,rfl⟩,rfl,rfl,rfl,rfl,rfl⟩,trivial⟩ ?_)|apply en_n|apply zAH|apply zAB|apply zAF|apply w0|(refine zC5 (by kernel_rfl) ?_;apply zAx;exact rfl;exact rfl;exact rfl;(with_reducible exact zAY);exact rfl;exact rfl;exact rfl;exact rfl)|(apply zBD;exact rfl;exact rfl;first|assumption|omega)|(apply zBS;exact rfl;exact rfl;first|assumption|omega)|(refine zBB [0,1] [] rfl rfl zDJ (hhA) rfl ?_ rfl (by decide) rfl rfl rfl rfl;(repeat (refine zAL rfl ?_));exact zAS)|(refine zBB [0,1] [] rfl rfl zDJ (hhB) rfl ?_ rfl (by decide) rfl rfl rfl rfl;(repeat (refine zAL rfl ?_));exact zAS)|apply ay (hd:=rfl)|exact zAE rfl|exact zAC rfl|exact zAi rfl rfl|exact zAZ rfl|(apply zAR;exact rfl;(with_reducible first|exact fn_0|exact fn_2))|(apply zAU;exact rfl;(with_reducible first|exact zAe|exact zBI);exact rfl;exact rfl)|exact w1 rfl rfl|(refine w0' ?_)|exact zAK rfl|exact zAQ rfl|apply zAI|apply zAP|apply zAM|apply en_r|apply eb_r
              exact zAq (zAO (zAA rfl zAa) (zAD rfl rfl (zAD rfl rfl zAN)) rfl rfl)
          · rename_i hk
            split at h
            · rename_i hk2
              have hk1 : x.kind ≠ 31:=fun e=>hk ⟨e,hk2⟩
              have hih:=ih L b a e L' hL h
              repeat' first | (refine zB0 (id:=2) [.y (.d (zAc a)),.y (.rptr x.av.flat),.y (.d (.agg (x.av.flat.take 4))),.y (.d (zAc b)),.y (.rptr y.av.flat),.y (.d (.agg (y.av.flat.take 4))),.mk ⟨7,zsN,40,ndC x⟩ (some 8),.mk ⟨8,zsN,40,zsN.map cst⟩ none,.st 6 ⟨7,zsN,40,ndC x⟩] (by kernel_rfl) (by kernel_rfl) (.inr (by kernel_rfl)) ⟨⟨rfl,zAE rfl⟩,rfl,⟨rfl,zEI hx rfl rfl zAW⟩,rfl,⟨rfl,zAf rfl zAY rfl⟩,rfl,⟨rfl,zAE rfl⟩,rfl,⟨rfl,zEI hy rfl rfl zAW⟩,rfl,⟨rfl,zAf rfl zAY rfl⟩,rfl,⟨rfl,rfl,rfl,zAp,by kernel_rfl,rfl⟩,rfl,⟨rfl,rfl,rfl,zAp,by kernel_rfl,rfl⟩,rfl,⟨⟨_,_,_,_,_,rfl,rfl,rfl,zAY,rfl⟩,rfl,rfl,rfl,rfl,rfl⟩,trivial⟩ ?_)|apply en_n|apply zAH|apply zAB|apply zAF|apply w0|(refine zC5 (by kernel_rfl) ?_;apply zAx;exact rfl;exact rfl;exact rfl;(with_reducible exact zAY);exact rfl;exact rfl;exact rfl;exact rfl)|(apply k1u (hd:=rfl);exact rfl;exact rfl)|(apply zBD;exact rfl;exact rfl;first|assumption|omega)|(apply zA9;exact rfl;exact rfl;first|assumption|omega)|(refine zBB [0,1] [] rfl rfl zDJ (hhA) rfl ?_ rfl (by decide) rfl rfl rfl rfl;(repeat (refine zAL rfl ?_));exact zAS)|(refine zBB [0,1] [] rfl rfl zDJ (hhB) rfl ?_ rfl (by decide) rfl rfl rfl rfl;(repeat (refine zAL rfl ?_));exact zAS)|(refine zA3 [0,1] zJs (hih) ?_ rfl rfl (by decide) rfl rfl rfl rfl rfl rfl ?_;(repeat (refine zAL rfl ?_));exact zAS)|apply ay (hd:=rfl)|exact zAE rfl|exact zAC rfl|exact zAh rfl rfl|exact zAZ rfl|(apply zAR;exact rfl;(with_reducible exact fn_0))|(apply zAU;exact rfl;(with_reducible exact zAe);exact rfl;exact rfl)|(refine w0' ?_)|exact zAK rfl|exact zAQ rfl|apply zAI|apply zAM|apply en_r|apply eb_r
              exact zAq (zAO (zAA rfl zAa) (zAD rfl rfl (zAD rfl rfl zAN)) rfl rfl)
            · rename_i hk2
              split at h
              · rename_i hk1
                split at h
                · rename_i S1 hin
                  injection h with h;injection h with h1 h2;subst h1;subst h2
                  have hp:=zOx nx L x.num hL n b true S1 (by omega) hin
                  repeat' first | (refine zB0 (id:=2) [.y (.d (zAc a)),.y (.rptr x.av.flat),.y (.d (.agg (x.av.flat.take 4))),.y (.d (zAc b)),.y (.rptr y.av.flat),.y (.d (.agg (y.av.flat.take 4))),.mk ⟨7,zsN,40,ndC x⟩ (some 8),.mk ⟨8,zsN,40,zsN.map cst⟩ none,.st 6 ⟨7,zsN,40,ndC x⟩] (by kernel_rfl) (by kernel_rfl) (.inr (by kernel_rfl)) ⟨⟨rfl,zAE rfl⟩,rfl,⟨rfl,zEI hx rfl rfl zAW⟩,rfl,⟨rfl,zAf rfl zAY rfl⟩,rfl,⟨rfl,zAE rfl⟩,rfl,⟨rfl,zEI hy rfl rfl zAW⟩,rfl,⟨rfl,zAf rfl zAY rfl⟩,rfl,⟨rfl,rfl,rfl,zAp,by kernel_rfl,rfl⟩,rfl,⟨rfl,rfl,rfl,zAp,by kernel_rfl,rfl⟩,rfl,⟨⟨_,_,_,_,_,rfl,rfl,rfl,zAY,rfl⟩,rfl,rfl,rfl,rfl,rfl⟩,trivial⟩ ?_)|apply en_n|apply zAH|apply zAB|apply zAF|apply w0|(refine zC5 (by kernel_rfl) ?_;apply zAx;exact rfl;exact rfl;exact rfl;(with_reducible exact zAY);exact rfl;exact rfl;exact rfl;exact rfl)|(apply zBD;exact rfl;exact rfl;first|assumption|omega)|(apply zA9;exact rfl;exact rfl;first|assumption|omega)|(refine zBB [0,1] [] rfl rfl zDJ (hhA) rfl ?_ rfl (by decide) rfl rfl rfl rfl;(repeat (refine zAL rfl ?_));exact zAS)|(refine zBB [0,1] [] rfl rfl zDJ (hhB) rfl ?_ rfl (by decide) rfl rfl rfl rfl;(repeat (refine zAL rfl ?_));exact zAS)|(refine zA3 [0,1] zPL (hp) ?_ rfl rfl (by decide) rfl rfl rfl rfl rfl rfl ?_;(repeat (refine zAL rfl ?_));exact zAS)|apply ay (hd:=rfl)|exact zAE rfl|exact zAC rfl|exact zAi rfl rfl|exact zAZ rfl|(apply zAR;exact rfl;(with_reducible first|exact fn_0|exact fn_2))|(apply zAU;exact rfl;(with_reducible first|exact zAe|exact zBI);exact rfl;exact rfl)|exact w1 rfl rfl|(refine w0' ?_)|exact zAK rfl|exact zAQ rfl|apply zAI|apply zAM|apply en_r|apply eb_r
                  exact zAq (zAO (zAA rfl zAa) (zAD rfl rfl (zAD rfl rfl zAN)) rfl rfl)
                · rename_i S1 hin
                  injection h with h;injection h with h1 h2;subst h1;subst h2
                  have hp:=zOx nx L x.num hL n b false S1 (by omega) hin
                  repeat' first | (refine zB0 (id:=2) [.y (.d (zAc a)),.y (.rptr x.av.flat),.y (.d (.agg (x.av.flat.take 4))),.y (.d (zAc b)),.y (.rptr y.av.flat),.y (.d (.agg (y.av.flat.take 4))),.mk ⟨7,zsN,40,ndC x⟩ (some 8),.mk ⟨8,zsN,40,zsN.map cst⟩ none,.st 6 ⟨7,zsN,40,ndC x⟩] (by kernel_rfl) (by kernel_rfl) (.inr (by kernel_rfl)) ⟨⟨rfl,zAE rfl⟩,rfl,⟨rfl,zEI hx rfl rfl zAW⟩,rfl,⟨rfl,zAf rfl zAY rfl⟩,rfl,⟨rfl,zAE rfl⟩,rfl,⟨rfl,zEI hy rfl rfl zAW⟩,rfl,⟨rfl,zAf rfl zAY rfl⟩,rfl,⟨rfl,rfl,rfl,zAp,by kernel_rfl,rfl⟩,rfl,⟨rfl,rfl,rfl,zAp,by kernel_rfl,rfl⟩,rfl,⟨⟨_,_,_,_,_,rfl,rfl,rfl,zAY,rfl⟩,rfl,rfl,rfl,rfl,rfl⟩,trivial⟩ ?_)|apply en_n|apply zAH|apply zAB|apply zAF|apply w0|(refine zC5 (by kernel_rfl) ?_;apply zAx;exact rfl;exact rfl;exact rfl;(with_reducible exact zAY);exact rfl;exact rfl;exact rfl;exact rfl)|(apply zBD;exact rfl;exact rfl;first|assumption|omega)|(apply zA9;exact rfl;exact rfl;first|assumption|omega)|exact zAo rfl|(refine zBB [0,1] [] rfl rfl zDJ (hhA) rfl ?_ rfl (by decide) rfl rfl rfl rfl;(repeat (refine zAL rfl ?_));exact zAS)|(refine zBB [0,1] [] rfl rfl zDJ (hhB) rfl ?_ rfl (by decide) rfl rfl rfl rfl;(repeat (refine zAL rfl ?_));exact zAS)|(refine zA3 [0,1] zPL (hp) ?_ rfl rfl (by decide) rfl rfl rfl rfl rfl rfl ?_;(repeat (refine zAL rfl ?_));exact zAS)|(refine zC5 (by kernel_rfl) ?_;apply zGd;exact zFU zAc L x.num b;exact rfl;exact rfl;exact rfl;exact zAk rfl;(with_reducible exact zHP);(with_reducible exact zES);exact rfl)|apply ay (hd:=rfl)|exact zAE rfl|exact zAC rfl|exact zAi rfl rfl|exact zAZ rfl|(apply zAR;exact rfl;(with_reducible first|exact fs_1|exact fn_0|exact fn_2))|(apply zAU;exact rfl;(with_reducible first|exact zE7|exact zAe|exact zBI);exact rfl;exact rfl)|exact w1 rfl rfl|(refine w0' ?_)|exact zAK rfl|exact zAQ rfl|apply zAI|apply zAP|apply zAM|refine zA6 (by kernel_rfl) (by kernel_rfl) ?_|apply en_r|apply eb_r
                  exact zAq (zAO (zAA rfl zAa) (zAD rfl rfl (zAD rfl rfl zAN)) rfl rfl)
                · cases h
              · rename_i hk1
                split at h
                · rename_i hxy
                  injection h with h;injection h with h1 h2;subst h1;subst h2
                  repeat' first | (refine zB0 (id:=2) [.y (.d (zAc a)),.y (.rptr x.av.flat),.y (.d (.agg (x.av.flat.take 4))),.y (.d (zAc b)),.y (.rptr y.av.flat),.y (.d (.agg (y.av.flat.take 4))),.mk ⟨7,zsN,40,ndC x⟩ (some 8),.mk ⟨8,zsN,40,zsN.map cst⟩ none,.st 6 ⟨7,zsN,40,ndC x⟩] (by kernel_rfl) (by kernel_rfl) (.inr (by kernel_rfl)) ⟨⟨rfl,zAE rfl⟩,rfl,⟨rfl,zEI hx rfl rfl zAW⟩,rfl,⟨rfl,zAf rfl zAY rfl⟩,rfl,⟨rfl,zAE rfl⟩,rfl,⟨rfl,zEI hy rfl rfl zAW⟩,rfl,⟨rfl,zAf rfl zAY rfl⟩,rfl,⟨rfl,rfl,rfl,zAp,by kernel_rfl,rfl⟩,rfl,⟨rfl,rfl,rfl,zAp,by kernel_rfl,rfl⟩,rfl,⟨⟨_,_,_,_,_,rfl,rfl,rfl,zAY,rfl⟩,rfl,rfl,rfl,rfl,rfl⟩,trivial⟩ ?_)|apply en_n|apply zAH|apply zAB|apply zAF|apply w0|(refine zC5 (by kernel_rfl) ?_;apply zAx;exact rfl;exact rfl;exact rfl;(with_reducible exact zAY);exact rfl;exact rfl;exact rfl;exact rfl)|(apply k1u (hd:=rfl);exact rfl;exact rfl)|(apply zA9;exact rfl;exact rfl;first|assumption|omega)|(refine zBB [0,1] [] rfl rfl zDJ (hhA) rfl ?_ rfl (by decide) rfl rfl rfl rfl;(repeat (refine zAL rfl ?_));exact zAS)|(refine zBB [0,1] [] rfl rfl zDJ (hhB) rfl ?_ rfl (by decide) rfl rfl rfl rfl;(repeat (refine zAL rfl ?_));exact zAS)|(apply zQC;exact hxy;exact rfl;exact rfl)|apply ay (hd:=rfl)|exact zAE rfl|exact zAC rfl|exact zAh rfl rfl|exact zAZ rfl|(apply zAR;exact rfl;(with_reducible exact fn_0))|(apply zAU;exact rfl;(with_reducible exact zAe);exact rfl;exact rfl)|(apply zCn;exact rfl;(with_reducible exact zAY);exact rfl;exact rfl;exact rfl)|(refine w0' ?_)|exact zAK rfl|exact zAQ rfl|apply zAI|apply zAM|apply en_r|apply eb_r
                  exact zAq (zAO (zAA rfl zAa) (zAD rfl rfl (zAD rfl rfl zAN)) rfl rfl)
                · rename_i hxy
                  have hxy : x = y:=Classical.byContradiction hxy
                  repeat' first | (refine zB0 (id:=2) [.y (.d (zAc a)),.y (.rptr x.av.flat),.y (.d (.agg (x.av.flat.take 4))),.y (.d (zAc b)),.y (.rptr y.av.flat),.y (.d (.agg (y.av.flat.take 4))),.mk ⟨7,zsN,40,ndC x⟩ (some 8),.mk ⟨8,zsN,40,zsN.map cst⟩ none,.st 6 ⟨7,zsN,40,ndC x⟩] (by kernel_rfl) (by kernel_rfl) (.inr (by kernel_rfl)) ⟨⟨rfl,zAE rfl⟩,rfl,⟨rfl,zEI hx rfl rfl zAW⟩,rfl,⟨rfl,zAf rfl zAY rfl⟩,rfl,⟨rfl,zAE rfl⟩,rfl,⟨rfl,zEI hy rfl rfl zAW⟩,rfl,⟨rfl,zAf rfl zAY rfl⟩,rfl,⟨rfl,rfl,rfl,zAp,by kernel_rfl,rfl⟩,rfl,⟨rfl,rfl,rfl,zAp,by kernel_rfl,rfl⟩,rfl,⟨⟨_,_,_,_,_,rfl,rfl,rfl,zAY,rfl⟩,rfl,rfl,rfl,rfl,rfl⟩,trivial⟩ ?_)|apply en_n|apply zAH|apply zAB|apply zAF|apply w0|(refine zC5 (by kernel_rfl) ?_;apply zAx;exact rfl;exact rfl;exact rfl;(with_reducible exact zAY);exact rfl;exact rfl;exact rfl;exact rfl)|(apply k1u (hd:=rfl);exact rfl;exact rfl)|(apply zA9;exact rfl;exact rfl;first|assumption|omega)|(refine zBB [0,1] [] rfl rfl zDJ (hhA) rfl ?_ rfl (by decide) rfl rfl rfl rfl;(repeat (refine zAL rfl ?_));exact zAS)|(refine zBB [0,1] [] rfl rfl zDJ (hhB) rfl ?_ rfl (by decide) rfl rfl rfl rfl;(repeat (refine zAL rfl ?_));exact zAS)|(apply zQD;exact hxy;exact rfl;exact rfl)|(apply zAV (hb:=zCV) (hc:=zCa a 0 hla);exact zAX rfl (zAX rfl zAG))|(apply zAV (hb:=zCV) (hc:=zCa b 0 hlb);exact zAX rfl (zAX rfl zAG))|apply ay (hd:=rfl)|exact zAE rfl|exact zAC rfl|(apply zAl;exact rfl;(with_reducible exact zBt))|exact zAh rfl rfl|exact zAZ rfl|(apply zAR;exact rfl;(with_reducible exact fn_0))|(apply zAU;exact rfl;(with_reducible exact zAe);exact rfl;exact rfl)|(apply zCn;exact rfl;(with_reducible exact zAY);exact rfl;exact rfl;exact rfl)|(refine w0' ?_)|exact zAQ rfl|apply zAI|apply zAP|apply eb_n
                  refine zAr (α:=Nat × Sto) (fun p=>p.1 ≤ (zBV a 0).length ∧ zCB (kidS n a b) (0,L) ((List.range (zBV a 0).length).take p.1) = some (0,p.2) ∧ StoB p.2) (fun p=>[(0,.ptr 0 0),(1,.d (zAc a)),(2,.d (zAc b)),(9,.d (zBj (zBV a 0))),(10,.d (zBj (zBV b 0))),(87,.d (i64 ((zBV a 0).length : Int))),(88,.d (i64 (p.1 : Int)))])
                    (fun p=>[.bx (fx 0) none [.d (i64 nx),.mp 1],.map (fx 1) (mSto p.2)]) (fun p=>(zBV a 0).length - p.1) (0,L) ⟨Nat.zero_le _,by simp [zCB],hL⟩
                    (zAO (zAA rfl (zAA rfl (zAA rfl (zAA rfl (zAA rfl (Le_d rfl rfl (zAA rfl zAa))))))) (zAD rfl rfl (zAD rfl rfl zAN)) rfl rfl) ?_
                  have hkl:=kids_len a 0
                  rintro ⟨i,S1⟩ ⟨hi,hf,hS1⟩
                  dsimp only at hi hf hS1 ⊢
                  rcases Nat.lt_or_ge i (zBV a 0).length with hlt | hge
                  · have hix : (List.range (zBV a 0).length)[i]? = some i:=List.getElem?_range hlt
                    obtain ⟨c,hc⟩:=zEc h (i + 1)
                    have hst:=zEd hix hf
                    rw [hc] at hst
                    obtain ⟨k,l,u,v,hka,hlb2,hu,hv,hs⟩:=zTj hst.symm
                    have hS2:=zJa _ _ _ _ _ hS1 hs
                    obtain ⟨c1,S2⟩:=c
                    have hih:=ih S1 u v c1 S2 hS1 hs
                    by_cases hc1 : c1 = 0
                    · subst hc1
                      repeat' first | apply en_n|apply zAH|apply zAB|apply zAF|apply w0|(apply zA5;exact rfl;exact rfl;first|assumption|omega)|(apply zBS;exact rfl;exact rfl;first|assumption|omega)|(apply zQI;exact hu;exact rfl;exact rfl;exact rfl;(with_reducible exact zAW))|(apply zQI;exact hv;exact rfl;exact rfl;exact rfl;(with_reducible exact zAW))|(apply zAV (hb:=zFl) (hc:=zFq a k hla);exact zAX rfl (zAX rfl zAG))|(apply zAV (hb:=zFl) (hc:=zFq b l hlb);exact zAX rfl (zAX rfl zAG))|(refine zC5 (by kernel_rfl) ?_;refine zA3 [0,1] zJs (hih) ?_ rfl rfl (by decide) rfl rfl rfl rfl rfl rfl ?_;(repeat (refine zAL rfl ?_));exact zAS)|(apply aJ (hd:=rfl);(first|exact zAk rfl|exact Co_bb rfl rfl rfl|exact Co_nn rfl);exact rfl;(with_reducible exact zA7);assumption;omega;exact fun _=>rfl)|apply ay (hd:=rfl)|exact zAE rfl|exact zAC rfl|(apply zAg;exact rfl;(with_reducible exact zAs))|exact zBC rfl rfl|exact zAZ rfl|exact zAK rfl|exact zAQ rfl|apply zAI|apply zAP|refine zA6 (by kernel_rfl) (by kernel_rfl) ?_|apply eb_n
                      · omega
                      exact ⟨(i + 1,S2),⟨hlt,hc,hS2⟩,by show (zBV a 0).length - (i + 1) < _;omega,zAO (zAA rfl (zAA rfl (zAA rfl (zAA rfl (zAA rfl (zAA rfl (zAA rfl zAa))))))) (zAD rfl rfl (zAD rfl rfl zAN)) rfl rfl⟩
                    · have hr:=zPX (fun j=>by unfold kidS;simp only [ne_eq,hc1,not_false_eq_true,if_true]) hc h
                      injection hr with h1 h2;subst h1;subst h2
                      repeat' first | apply en_n|apply zAH|apply zAB|apply zAF|apply w0|(apply zA5;exact rfl;exact rfl;first|assumption|omega)|(apply zB4;exact rfl;exact rfl;first|assumption|omega)|(apply zQI;exact hu;exact rfl;exact rfl;exact rfl;(with_reducible exact zAW))|(apply zQI;exact hv;exact rfl;exact rfl;exact rfl;(with_reducible exact zAW))|(apply zAV (hb:=zFl) (hc:=zFq a k hla);exact zAX rfl (zAX rfl zAG))|(apply zAV (hb:=zFl) (hc:=zFq b l hlb);exact zAX rfl (zAX rfl zAG))|(refine zC5 (by kernel_rfl) ?_;refine zA3 [0,1] zJs (hih) ?_ rfl rfl (by decide) rfl rfl rfl rfl rfl rfl ?_;(repeat (refine zAL rfl ?_));exact zAS)|(apply aJ (hd:=rfl);(first|exact zAk rfl|exact Co_bb rfl rfl rfl|exact Co_nn rfl);exact rfl;(with_reducible exact zA7);assumption;omega;exact fun _=>rfl)|apply ay (hd:=rfl)|exact zAE rfl|exact zAC rfl|(apply zAg;exact rfl;(with_reducible exact zAs))|exact zAZ rfl|exact zAK rfl|apply zAI|apply zAP|apply zAM|refine zA6 (by kernel_rfl) (by kernel_rfl) ?_|apply en_r|apply eb_r
                      exact zAq (zAO (zAA rfl zAa) (zAD rfl rfl (zAD rfl rfl zAN)) rfl rfl)
                  · have e2 : (0,S1) = (e,L'):=by rw [List.take_of_length_le (by rw [List.length_range];exact hge),h] at hf;injection hf with hf;exact hf.symm
                    injection e2 with e2 e3;subst e2;subst e3
                    repeat' first | apply en_n|apply zAH|apply zAB|apply zAF|apply w0|(apply zBn;exact rfl;exact rfl;first|assumption|omega)|apply ay (hd:=rfl)|exact zAC rfl|exact zAQ rfl|apply zAM|apply zAt|apply en_e|apply eb_e
                    exact zAq (zAO (zAA rfl zAa) (zAD rfl rfl (zAD rfl rfl zAN)) rfl rfl)
      · cases h
    · cases h
end Go.Proofs.YtblomnkamngnbaaGreatDoor
namespace Go.Proofs.YtblomnkamngnbaaGreatDoor
open Go.Sx
def uniF (n : Nat) (L : Sto) (a b : List Nd) : Option (Int × Sto):=if ckT a ≠ 0 ∨ ckT b ≠ 0 then some (90,L) else zJb n L a b
attribute [local irreducible] zAT Program.underlying Ylds zBA alex zBc zBO awp zAj zBX RCall zA2 zBH zBQ zA8 zBT zBZ zBd zBr zBN
set_option maxHeartbeats 2000000 in
theorem zQJ (nx : Int) (n : Nat) (L : Sto) (a b : List Nd) (e : Int) (L' : Sto) (hla : a.length ≤ 2000000) (hlb : b.length ≤ 2000000) (hL : StoB L) (h : uniF n L a b = some (e,L')) :
    zA2 Tryz.prog 110 [.ptr 0 0,.d (zAc a),.d (zAc b)] (stO nx L) (.d (i64 e)) (stO nx L'):=by
  refine zA1 Tryz.func110 rfl Tryz.ntmps110 Tryz.results110 rfl rfl rfl ?_
  intro wb St0 X fx
  unfold uniF at h
  by_cases hca : ckT a = 0
  · by_cases hcb : ckT b = 0
    · rw [if_neg (by omega)] at h
      have hs:=zOj nx n L a b e L' hL h
      repeat' first | apply en_n|apply zAH|apply zAB|apply zAF|apply w0|(apply zBS;exact rfl;exact rfl;first|assumption|omega)|(apply zAV (hb:=zCH) (hc:=zCO a hla);exact zAX rfl zAG)|(apply zAV (hb:=zCH) (hc:=zCO b hlb);exact zAX rfl zAG)|(refine zA3 [0,1] zJs (hs) ?_ rfl rfl (by decide) rfl rfl rfl rfl rfl rfl ?_;(repeat (refine zAL rfl ?_));exact zAS)|apply ay (hd:=rfl)|exact zAE rfl|exact zAC rfl|exact zAh rfl rfl|exact zAZ rfl|exact w1 rfl rfl|exact zAQ rfl|apply zAP|apply zAM
      exact zAq (zAO (zAA rfl zAa) (zAD rfl rfl (zAD rfl rfl zAN)) rfl rfl)
    · rw [if_pos (.inr hcb)] at h
      injection h with h;injection h with h1 h2;subst h1;subst h2
      repeat' first | apply en_n|apply zAH|apply zAB|apply zAF|apply w0|(apply zB4;exact rfl;exact rfl;first|assumption|omega)|(apply zBS;exact rfl;exact rfl;first|assumption|omega)|(apply zAV (hb:=zCH) (hc:=zCO a hla);exact zAX rfl zAG)|(apply zAV (hb:=zCH) (hc:=zCO b hlb);exact zAX rfl zAG)|apply ay (hd:=rfl)|exact zAE rfl|exact zAC rfl|exact zAh rfl rfl|exact w1 rfl rfl|exact zAK rfl|apply zAM|apply en_r
      exact zAq (zAO (zAA rfl zAa) (zAD rfl rfl (zAD rfl rfl zAN)) rfl rfl)
  · rw [if_pos (.inl hca)] at h
    injection h with h;injection h with h1 h2;subst h1;subst h2
    repeat' first | apply en_n|apply zAH|apply zAB|apply zAF|apply w0|(apply k0u (hd:=rfl);exact rfl;exact rfl)|(apply zB4;exact rfl;exact rfl;first|assumption|omega)|(apply zAV (hb:=zCH) (hc:=zCO a hla);exact zAX rfl zAG)|apply ay (hd:=rfl)|exact zAE rfl|exact zAC rfl|exact zAi rfl rfl|exact zAK rfl|apply zAM|apply en_r
    exact zAq (zAO (zAA rfl zAa) (zAD rfl rfl (zAD rfl rfl zAN)) rfl rfl)
set_option maxHeartbeats 2000000 in
theorem zMJ (nx : Int) (L : Sto) (t : List Nd) (ht : t.length ≤ 2000000) (hc : ckT t ≠ 0) :
    zA2 Tryz.prog 62 [.ptr 0 0,.d (zAc t)] (stO nx L) (.pair .nil (.d (i64 (ckT t)))) (stO nx L):=by
  refine zA1 Tryz.func62 rfl Tryz.ntmps62 Tryz.results62 rfl rfl rfl ?_
  intro wb St0 X fx
  repeat' first | apply en_n|apply zAH|apply zAB|apply zAF|apply w0|(apply zB4;exact rfl;exact rfl;first|assumption|omega)|(apply zAV (hb:=zCH) (hc:=zCO t ht);exact zAX rfl zAG)|apply ay (hd:=rfl)|exact zAE rfl|exact zAC rfl|exact zAb rfl|exact zAK rfl|apply zAM|apply en_r
  exact zAq ⟨zAO (zAA rfl (zAA rfl zAa)) (zAD rfl rfl (zAD rfl rfl zAN)) rfl rfl,rfl⟩
set_option maxHeartbeats 2000000 in
theorem zMI (nx : Int) (L : Sto) (t : List Nd) (n : Nat) (m : Int) (S' : Seen) (hL : StoB L) (ht : t.length ≤ 1000000) (hc : ckT t = 0) (hs : zIh n L t [] = some (m,S')) (hm : m > 4000) :
    zA2 Tryz.prog 62 [.ptr 0 0,.d (zAc t)] (stO nx L) (.pair .nil (.d (i64 92))) (stO nx L):=by
  have hz:=zLm nx L hL n t [] m S' (fun a w h=>by cases h) ht hs
  have ht2 : t.length ≤ 2000000:=by omega
  refine zA1 Tryz.func62 rfl Tryz.ntmps62 Tryz.results62 rfl rfl rfl ?_
  intro wb St0 X fx
  repeat' first | apply en_n|apply zAH|apply zAB|apply zAF|apply w0|(apply zEj;exact rfl;exact rfl;first|assumption|omega)|(apply zBS;exact rfl;exact rfl;first|assumption|omega)|(apply zGe (hd:=rfl) (hro:=rfl);(with_reducible exact zHO);(with_reducible exact zE0))|(apply zAV (hb:=zCH) (hc:=zCO t ht2);exact zAX rfl zAG)|(refine zA3 [0,1,2] zJq (hz) ?_ rfl rfl (by decide) rfl rfl rfl rfl rfl rfl ?_;(repeat (refine zAL rfl ?_));exact zAS)|apply ay (hd:=rfl)|exact zAE rfl|exact zAC rfl|exact zAb rfl|exact zAZ rfl|exact zAK rfl|exact zAQ rfl|apply zAP|apply zAM|apply en_r
  exact zAq ⟨zAO (zAA rfl (zAA rfl zAa)) (zAD rfl rfl (zAD rfl rfl zAN)) rfl rfl,rfl⟩
set_option maxHeartbeats 2000000 in
theorem zOG (nx : Int) (L : Sto) (t r : List Nd) (n n2 : Nat) (m : Int) (S' : Seen) (hL : StoB L) (ht : t.length ≤ 1000000) (hc : ckT t = 0) (hs : zIh n L t [] = some (m,S')) (hm : ¬ m > 4000) (hr : resF n2 L t = some r) (hrl : r.length ≤ 1000000) :
    zA2 Tryz.prog 62 [.ptr 0 0,.d (zAc t)] (stO nx L) (.pair (.d (zAc r)) (.d (i64 0))) (stO nx L):=by
  have hz:=zLm nx L hL n t [] m S' (fun a w h=>by cases h) ht hs
  have hw:=zMR nx L n2 t r hr ht hrl hL
  have ht2 : t.length ≤ 2000000:=by omega
  refine zA1 Tryz.func62 rfl Tryz.ntmps62 Tryz.results62 rfl rfl rfl ?_
  intro wb St0 X fx
  repeat' first | apply en_n|apply zAH|apply zAB|apply zAF|apply w0|(apply zDi;exact rfl;exact rfl;first|assumption|omega)|(apply zBS;exact rfl;exact rfl;first|assumption|omega)|(apply zGe (hd:=rfl) (hro:=rfl);(with_reducible exact zHO);(with_reducible exact zE0))|(apply zAV (hb:=zCH) (hc:=zCO t ht2);exact zAX rfl zAG)|(refine zA3 [0,1,2] zJq (hz) ?_ rfl rfl (by decide) rfl rfl rfl rfl rfl rfl ?_;(repeat (refine zAL rfl ?_));exact zAS)|(refine zBB [0,1] [] rfl rfl zM1 (hw) rfl ?_ rfl (by decide) rfl rfl rfl rfl;(repeat (refine zAL rfl ?_));exact zAS)|apply ay (hd:=rfl)|exact zAE rfl|exact zAC rfl|exact zAb rfl|exact zAZ rfl|exact zAQ rfl|apply zAP|apply zAM
  exact zAq ⟨zAO (zAA rfl (zAA rfl zAa)) (zAD rfl rfl (zAD rfl rfl zAN)) rfl rfl,rfl⟩
end Go.Proofs.YtblomnkamngnbaaGreatDoor
namespace Go.Proofs.YtblomnkamngnbaaGreatDoor
def cns : List Nd → Nat → Option Nat
  | _,0=>some 0
  | [],_ + 1=>none
  | x :: r,o + 1=>if x.kids < 0 then none else (cns r (o + x.kids.toNat)).map (· + 1)
theorem zEF (l : List Nd) : cns l 0 = some 0:=by cases l <;> rfl
theorem zC8 (x : Nd) (r : List Nd) (o : Nat) : cns (x :: r) (o + 1) = if x.kids < 0 then none else (cns r (o + x.kids.toNat)).map (· + 1):=rfl
theorem zLN : ∀ {l : List Nd} {o k : Nat},cns l o = some k → k ≤ l.length
  | l,0,k,h=>by rw [zEF] at h;injection h with h;omega
  | [],o + 1,k,h=>by cases h
  | x :: r,o + 1,k,h=>by
    rw [zC8] at h
    split at h
    · cases h
    · cases hc : cns r (o + x.kids.toNat) with
      | none=>rw [hc] at h;cases h
      | some j=>rw [hc] at h;have:=zLN hc;simp at h;simp;omega
theorem zHg : ∀ {l : List Nd} {o k : Nat},cns l o = some k → o ≤ k
  | l,0,k,h=>by omega
  | [],o + 1,k,h=>by cases h
  | x :: r,o + 1,k,h=>by
    rw [zC8] at h
    split at h
    · cases h
    · cases hc : cns r (o + x.kids.toNat) with
      | none=>rw [hc] at h;cases h
      | some j=>rw [hc] at h;have:=zHg hc;simp at h;omega
theorem zDF : ∀ {l : List Nd} {o k : Nat} (m : List Nd),cns l o = some k → cns (l ++ m) o = some k
  | l,0,k,m,h=>by rw [zEF] at h ⊢;exact h
  | [],o + 1,k,m,h=>by cases h
  | x :: r,o + 1,k,m,h=>by
    rw [List.cons_append,zC8] at *
    split at h
    · cases h
    · rename_i h0
      rw [if_neg h0]
      cases hc : cns r (o + x.kids.toNat) with
      | none=>rw [hc] at h;cases h
      | some j=>rw [hc] at h;rw [zDF m hc];exact h
theorem zNI : ∀ {l : List Nd} {o k : Nat},cns l o = some k → cns (l.take k) o = some k
  | l,0,k,h=>by rw [zEF] at h ⊢;exact h
  | [],o + 1,k,h=>by cases h
  | x :: r,o + 1,k,h=>by
    rw [zC8] at h
    split at h
    · cases h
    · rename_i h0
      cases hc : cns r (o + x.kids.toNat) with
      | none=>rw [hc] at h;cases h
      | some j =>
        rw [hc] at h;simp at h;subst h
        rw [List.take_succ_cons,zC8,if_neg h0,zNI hc];rfl
theorem zIT : ∀ (l : List Nd) (a b : Nat),cns l (a + b) = (cns l a).bind fun k=>(cns (l.drop k) b).map (· + k)
  | l,0,b=>by rw [zEF];simp
  | [],a + 1,b=>by rw [show a + 1 + b = a + b + 1 by omega];rfl
  | x :: r,a + 1,b=>by
    rw [show a + 1 + b = a + b + 1 by omega,zC8,zC8]
    split
    · rfl
    · rw [show a + b + x.kids.toNat = a + x.kids.toNat + b by omega,zIT r (a + x.kids.toNat) b]
      cases cns r (a + x.kids.toNat) with
      | none=>rfl
      | some j =>
        simp only [Option.bind_some,Option.map_some,List.drop_succ_cons,Option.map_map]
        congr 1
theorem zLH (n : Nat) : ∀ (l : List Nd) (o : Nat) (a : Int),l.length ≤ n → zEA n l ((o : Int) + 1) a = match cns l (o + 1) with
    | some k=>a + k
    | none=>-1
  | [],o,a,_=>rfl
  | x :: r,o,a,hn=>by
    simp only [List.length_cons] at hn
    rw [zC8]
    unfold zEA
    by_cases h0 : x.kids < 0
    · rw [if_pos (.inl h0),if_pos h0]
    · rw [if_neg h0]
      by_cases h1 : x.kids > n
      · rw [if_pos (.inr h1)]
        cases hc : cns r (o + x.kids.toNat) with
        | none=>rfl
        | some j=>have:=zHg hc;have:=zLN hc;omega
      · rw [if_neg (by omega)]
        by_cases h2 : (o : Int) + 1 + (x.kids - 1) > 0
        · rw [if_pos h2]
          obtain ⟨q,hq⟩ : ∃ q : Nat,o + x.kids.toNat = q + 1:=⟨o + x.kids.toNat - 1,by omega⟩
          rw [hq,show (o : Int) + 1 + (x.kids - 1) = (q : Int) + 1 by omega,zLH n r q (a + 1) (by omega)]
          cases cns r (q + 1) with
          | none=>rfl
          | some k=>show a + 1 + (k : Int) = a + ((k + 1 : Nat) : Int);omega
        · rw [if_neg h2,show o + x.kids.toNat = 0 by omega,zEF];simp
theorem zNG (L : List Nd) (a : Nat) : endF L (a : Int) = match cns (L.drop a) 1 with
    | some k=>(a : Int) + k
    | none=>-1:=by
  rw [endF,if_neg (by omega),Int.toNat_natCast]
  have:=zLH L.length (L.drop a) 0 a (by rw [List.length_drop];omega)
  simpa using this
theorem zER (L : List Nd) : zB7 L = true ↔ cns L 1 = some L.length:=by
  have h:=zNG L 0
  simp only [List.drop_zero] at h
  rw [zB7,show (0 : Int) = ((0 : Nat) : Int) from rfl,h]
  cases hc : cns L 1 with
  | none=>simp
  | some k =>
    have:=zHg hc
    have:=zLN hc
    simp;omega
theorem zJ5 {L : List Nd} {n k : Nat} (h : cns (L.drop n) 1 = some k) : endF L (n : Int) = n + k:=by rw [zNG,h]
def zIs : Int → List (List Nd) → List Int
  | _,[]=>[]
  | b,K :: KK=>b :: zIs (b + K.length) KK
theorem zKO : ∀ (j : Nat) {l : List Nd} {k : Nat},cns l j = some k → ∃ KK : List (List Nd),KK.length = j ∧ KK.flatten = l.take k ∧ ∀ K ∈ KK,cns K 1 = some K.length
  | 0,l,k,h=>by rw [zEF] at h;injection h with h;subst h;exact ⟨[],rfl,by simp,by simp⟩
  | j + 1,l,k,h=>by
    rw [show j + 1 = 1 + j by omega,zIT] at h
    cases h1 : cns l 1 with
    | none=>rw [h1] at h;cases h
    | some k1 =>
      rw [h1] at h;simp only [Option.bind_some] at h
      cases h2 : cns (l.drop k1) j with
      | none=>rw [h2] at h;cases h
      | some k2 =>
        rw [h2] at h;simp only [Option.map_some,Option.some.injEq] at h;subst h
        obtain ⟨KK,e1,e2,e3⟩:=zKO j h2
        have hl:=zLN h1
        refine ⟨l.take k1 :: KK,by simp [e1],?_,?_⟩
        · rw [List.flatten_cons,e2,Nat.add_comm k2 k1,List.take_add]
        · intro K hK
          rcases List.mem_cons.1 hK with rfl | hK
          · rw [zNI h1,List.length_take];congr 1;omega
          · exact e3 K hK
theorem zJD : ∀ (KK : List (List Nd)),(∀ K ∈ KK,cns K 1 = some K.length) → cns KK.flatten KK.length = some KK.flatten.length
  | [],_=>by rw [List.length_nil,zEF];rfl
  | K :: KK,h=>by
    have h1:=h K (by simp)
    have h2:=zJD KK (fun K' hK=>h K' (by simp [hK]))
    rw [List.length_cons,Nat.add_comm,zIT,List.flatten_cons,zDF _ h1]
    simp only [Option.bind_some,List.drop_left,h2,Option.map_some,List.length_append,Option.some.injEq];omega
theorem zOd {L : List Nd} {n : Nat} {KK : List (List Nd)} {R : List Nd} (hd : L.drop n = KK.flatten ++ R) (hw : ∀ K ∈ KK,cns K 1 = some K.length) : ∀ i,i ≤ KK.length → seqE L (n : Int) i = (n : Int) + ((KK.take i).flatten.length : Nat)
  | 0,_=>by simp [seqE]
  | i + 1,hi=>by
    have ih:=zOd hd hw i (by omega)
    rw [zDy (by omega),ih]
    have hK : KK[i]? = some KK[i]:=List.getElem?_eq_getElem (by omega)
    have h1:=hw KK[i] (List.getElem_mem _)
    have hdr : L.drop (n + (KK.take i).flatten.length) = KK[i] ++ ((KK.drop (i + 1)).flatten ++ R):=by
      rw [← List.drop_drop,hd]
      conv=>lhs;rw [← List.take_append_drop i KK,List.flatten_append,List.append_assoc]
      rw [List.drop_append_of_le_length (by simp),List.drop_of_length_le (by simp),List.nil_append,List.drop_eq_getElem_cons (by omega),List.flatten_cons,List.append_assoc]
    have h2:=zJ5 (L:=L) (n:=n + (KK.take i).flatten.length) (by rw [hdr];exact zDF _ h1)
    rw [show (n : Int) + ((KK.take i).flatten.length : Nat) = ((n + (KK.take i).flatten.length : Nat) : Int) by omega,h2]
    have h9 : (KK.take (i + 1)).flatten.length = (KK.take i).flatten.length + KK[i].length:=by
      rw [List.take_add_one,hK,List.flatten_append,List.length_append];simp
    omega
theorem zHs : ∀ (KK : List (List Nd)) (b : Int),zIs b KK = (List.range KK.length).map (fun i=>b + ((KK.take i).flatten.length : Nat))
  | [],b=>rfl
  | K :: KK,b=>by
    rw [List.length_cons,List.range_succ_eq_map,List.map_cons,List.map_map,zIs,zHs KK]
    simp [Function.comp_def]
    intro i _;omega
theorem zSi {L : List Nd} {n : Nat} {KK : List (List Nd)} {R : List Nd} (hd : L.drop n = KK.flatten ++ R) (hw : ∀ K ∈ KK,cns K 1 = some K.length) {i : Nat} {K : List Nd} (hK : KK[i]? = some K) : endF L ((n : Int) + ((KK.take i).flatten.length : Nat)) = (n : Int) + ((KK.take i).flatten.length : Nat) + (K.length : Nat) ∧ L.drop (n + (KK.take i).flatten.length) = K ++ ((KK.drop (i + 1)).flatten ++ R):=by
  obtain ⟨hi,rfl⟩:=List.getElem?_eq_some_iff.1 hK
  have h1:=hw KK[i] (List.getElem_mem _)
  have hdr : L.drop (n + (KK.take i).flatten.length) = KK[i] ++ ((KK.drop (i + 1)).flatten ++ R):=by
    rw [← List.drop_drop,hd]
    conv=>lhs;rw [← List.take_append_drop i KK,List.flatten_append,List.append_assoc]
    rw [List.drop_append_of_le_length (by simp),List.drop_of_length_le (by simp),List.nil_append,List.drop_eq_getElem_cons (by omega),List.flatten_cons,List.append_assoc]
  have h2 : cns (L.drop (n + (KK.take i).flatten.length)) 1 = some KK[i].length:=by rw [hdr];exact zDF _ h1
  have h4:=zJ5 h2
  rw [show (n : Int) + ((KK.take i).flatten.length : Nat) = ((n + (KK.take i).flatten.length : Nat) : Int) by omega]
  exact ⟨h4,hdr⟩
structure Node (L : List Nd) (n : Nat) (x : Nd) (KK : List (List Nd)) (R : List Nd) : Prop where
  drop : L.drop n = x :: (KK.flatten ++ R)
  kids : x.kids = KK.length
  whole : ∀ K ∈ KK,cns K 1 = some K.length
theorem Node.cnsEq {L : List Nd} {n : Nat} {x : Nd} {KK : List (List Nd)} {R : List Nd} (h : Node L n x KK R) : cns (L.drop n) 1 = some (KK.flatten.length + 1):=by
  rw [h.drop,zC8,if_neg (by have:=h.kids;omega),show 0 + x.kids.toNat = KK.length by have:=h.kids;omega,zDF _ (zJD KK h.whole)];rfl
theorem Node.at {L : List Nd} {n : Nat} {x : Nd} {KK : List (List Nd)} {R : List Nd} (h : Node L n x KK R) : L[n]? = some x:=by
  have:=congrArg (·[0]?) h.drop
  simpa using this
theorem Node.next {L : List Nd} {n : Nat} {x : Nd} {KK : List (List Nd)} {R : List Nd} (h : Node L n x KK R) : L.drop (n + 1) = KK.flatten ++ R:=by
  rw [← List.drop_drop,h.drop];rfl
theorem Node.kidsEq {L : List Nd} {n : Nat} {x : Nd} {KK : List (List Nd)} {R : List Nd} (h : Node L n x KK R) : zBV L (n : Int) = zIs ((n : Int) + 1) KK:=by
  have h1:=zJ5 h.cnsEq
  rw [zBV,if_neg (by omega),zHs,show zNq L (n : Int) = KK.length by rw [zNq,Int.toNat_natCast,h.at];have:=h.kids;simp only;omega]
  refine List.map_congr_left fun i hi=>?_
  rw [List.mem_range] at hi
  have:=zOd h.next h.whole i (by omega)
  rw [show ((n + 1 : Nat) : Int) = (n : Int) + 1 by omega] at this
  exact this
theorem zO0 {L : List Nd} {n k : Nat} (h : cns (L.drop n) 1 = some k) : ∃ x KK R,Node L n x KK R ∧ k = KK.flatten.length + 1:=by
  cases hl : L.drop n with
  | nil=>rw [hl] at h;cases h
  | cons x r =>
    rw [hl,zC8] at h
    split at h
    · cases h
    · rename_i h0
      cases hc : cns r (0 + x.kids.toNat) with
      | none=>rw [hc] at h;cases h
      | some j =>
        rw [hc] at h;simp at h;subst h
        obtain ⟨KK,e1,e2,e3⟩:=zKO _ hc
        have:=zLN hc
        refine ⟨x,KK,r.drop j,⟨by rw [e2,List.take_append_drop,hl],by rw [e1];omega,e3⟩,?_⟩
        rw [e2,List.length_take];omega
end Go.Proofs.YtblomnkamngnbaaGreatDoor
namespace Go.Proofs.YtblomnkamngnbaaGreatDoor
inductive Tr where
  | mk (n : Nd) (ks : List Tr)
def Tr.hd : Tr → Nd
  | .mk n _=>n
mutual
def Tr.fl : Tr → List Nd
  | .mk n ks=>n :: flL ks
def flL : List Tr → List Nd
  | []=>[]
  | t :: r=>t.fl ++ flL r
end
mutual
def Tr.wf : Tr → Prop
  | .mk n ks=>n.kids = ks.length ∧ wfL ks
def wfL : List Tr → Prop
  | []=>True
  | t :: r=>t.wf ∧ wfL r
end
mutual
def Tr.sz : Tr → Nat
  | .mk _ ks=>szL ks + 1
def szL : List Tr → Nat
  | []=>0
  | t :: r=>t.sz + szL r
end
mutual
theorem Tr.fl_len : ∀ t : Tr,t.fl.length = t.sz
  | .mk _ ks=>by rw [Tr.fl,Tr.sz,List.length_cons,zJ3 ks]
theorem zJ3 : ∀ ks : List Tr,(flL ks).length = szL ks
  | []=>rfl
  | t :: r=>by rw [flL,szL,List.length_append,Tr.fl_len t,zJ3 r]
end
theorem zCT : ∀ {ks : List Tr},wfL ks ↔ ∀ k ∈ ks,k.wf
  | []=>by simp [wfL]
  | t :: r=>by simp [wfL,zCT (ks:=r)]
theorem zFg : ∀ (ks : List Tr),flL ks = (ks.map Tr.fl).flatten
  | []=>rfl
  | t :: r=>by rw [flL,List.map_cons,List.flatten_cons,zFg r]
theorem zBR (t : Tr) : 0 < t.sz:=by cases t;rw [Tr.sz];omega
theorem zCi : ∀ {ks : List Tr} {k : Tr},k ∈ ks → k.sz ≤ szL ks
  | t :: r,k,h=>by
    rw [szL]
    rcases List.mem_cons.1 h with e | e
    · rw [e];omega
    · have:=zCi e;omega
mutual
theorem Tr.wf_cns : ∀ {t : Tr},t.wf → cns t.fl 1 = some t.fl.length
  | .mk n ks,h=>by
    rw [Tr.wf] at h
    rw [Tr.fl,zC8,if_neg (by omega),show 0 + n.kids.toNat = ks.length by omega,zOQ h.2];rfl
theorem zOQ : ∀ {ks : List Tr},wfL ks → cns (flL ks) ks.length = some (flL ks).length
  | [],_=>rfl
  | t :: r,h=>by
    rw [wfL] at h
    rw [flL,List.length_cons,show r.length + 1 = 1 + r.length by omega,zIT,zDF _ (Tr.wf_cns h.1),Option.bind_some,List.drop_left,zOQ h.2,Option.map_some,List.length_append]
    congr 1;omega
end
theorem zOV : ∀ (m : Nat) {L : List Nd},L.length ≤ m → cns L 1 = some L.length → ∃ t : Tr,t.fl = L ∧ t.wf
  | 0,L,hm,h=>by have:=zHg h;omega
  | m + 1,L,hm,h=>by
    obtain ⟨x,KK,R,hN,hl⟩:=zO0 (L:=L) (n:=0) (by simpa using h)
    have hd:=hN.drop
    rw [List.drop_zero] at hd
    have hR : R = []:=by
      have:=congrArg List.length hd
      simp only [List.length_cons,List.length_append] at this
      exact List.eq_nil_of_length_eq_zero (by omega)
    subst hR
    rw [List.append_nil] at hd
    have hlen : KK.flatten.length ≤ m:=by rw [hd,List.length_cons] at hm;omega
    have key : ∀ (KK : List (List Nd)),KK.flatten.length ≤ m → (∀ K ∈ KK,cns K 1 = some K.length) → ∃ ks : List Tr,flL ks = KK.flatten ∧ wfL ks ∧ ks.length = KK.length:=by
      intro KK
      induction KK with
      | nil=>exact fun _ _=>⟨[],rfl,trivial,rfl⟩
      | cons K KK ih =>
        intro hl hw
        rw [List.flatten_cons,List.length_append] at hl
        obtain ⟨t,e1,w1⟩:=zOV m (L:=K) (by omega) (hw K List.mem_cons_self)
        obtain ⟨ks,e2,w2,l2⟩:=ih (by omega) fun K' h'=>hw K' (List.mem_cons_of_mem _ h')
        exact ⟨t :: ks,by rw [flL,e1,e2,List.flatten_cons],⟨w1,w2⟩,by rw [List.length_cons,List.length_cons,l2]⟩
    obtain ⟨ks,e,w,l⟩:=key KK hlen hN.whole
    exact ⟨.mk x ks,by rw [Tr.fl,e,hd],by rw [Tr.wf];exact ⟨by rw [hN.kids,l],w⟩⟩
theorem zFS {L : List Nd} : zB7 L = true ↔ ∃ t : Tr,t.fl = L ∧ t.wf:=by
  rw [zER]
  constructor
  · exact zOV L.length (Nat.le_refl _)
  · rintro ⟨t,rfl,h⟩;exact Tr.wf_cns h
structure At (L : List Nd) (n : Nat) (t : Tr) : Prop where
  pre : ∃ R,L.drop n = t.fl ++ R
  wf : t.wf
theorem At.top {t : Tr} (h : t.wf) : At t.fl 0 t:=⟨⟨[],by simp⟩,h⟩
theorem At.node {L : List Nd} {n : Nat} {x : Nd} {ks : List Tr} (h : At L n (.mk x ks)) : ∃ R,Node L n x (ks.map Tr.fl) R:=by
  obtain ⟨R,hd⟩:=h.pre
  have hw:=h.wf
  rw [Tr.wf] at hw
  refine ⟨R,by rw [hd,Tr.fl,zFg];rfl,by rw [List.length_map];exact hw.1,fun K hK=>?_⟩
  obtain ⟨k,hk,rfl⟩:=List.mem_map.1 hK
  exact Tr.wf_cns (zCT.1 hw.2 k hk)
theorem At.here {L : List Nd} {n : Nat} {x : Nd} {ks : List Tr} (h : At L n (.mk x ks)) : L[n]? = some x:=by
  obtain ⟨R,hN⟩:=h.node;exact hN.at
theorem At.hd {L : List Nd} {n : Nat} {t : Tr} (h : At L n t) : L[n]? = some t.hd:=by cases t;exact h.here
theorem At.len {L : List Nd} {n : Nat} {t : Tr} (h : At L n t) : n + t.sz ≤ L.length:=by
  obtain ⟨R,hd⟩:=h.pre
  have:=congrArg List.length hd
  rw [List.length_drop,List.length_append,Tr.fl_len] at this
  have:=zBR t;omega
def kidAt (n : Nat) (ks : List Tr) (i : Nat) : Nat:=n + 1 + szL (ks.take i)
theorem zGn : ∀ (a b : List Tr),szL (a ++ b) = szL a + szL b
  | [],b=>by rw [List.nil_append,szL];omega
  | t :: a,b=>by rw [List.cons_append,szL,szL,zGn a b];omega
theorem zCu {n : Nat} {ks : List Tr} {i : Nat} {k : Tr} (h : ks[i]? = some k) : kidAt n ks (i + 1) = kidAt n ks i + k.sz:=by
  unfold kidAt
  rw [List.take_add_one,h,zGn,Option.toList_some,szL,szL];omega
theorem zCD (n : Nat) (ks : List Tr) : kidAt n ks 0 = n + 1:=by simp [kidAt,szL]
theorem zIA (n : Nat) (ks : List Tr) : kidAt n ks ks.length = n + 1 + szL ks:=by rw [kidAt,List.take_length]
theorem zPZ : ∀ (ks : List Tr),(ks.map Tr.fl).flatten.length = szL ks
  | ks=>by rw [← zFg,zJ3]
theorem At.kid {L : List Nd} {n : Nat} {x : Nd} {ks : List Tr} (h : At L n (.mk x ks)) {i : Nat} {k : Tr} (hk : ks[i]? = some k) : At L (kidAt n ks i) k:=by
  obtain ⟨R,hN⟩:=h.node
  have hw:=h.wf
  rw [Tr.wf] at hw
  have h1:=(zSi hN.next hN.whole (i:=i) (K:=k.fl) (by rw [List.getElem?_map,hk];rfl)).2
  rw [← List.map_take,zPZ] at h1
  exact ⟨⟨_,h1⟩,zCT.1 hw.2 k (List.mem_of_getElem? hk)⟩
theorem At.endF {L : List Nd} {n : Nat} {t : Tr} (h : At L n t) : endF L (n : Int) = ((n + t.sz : Nat) : Int):=by
  obtain ⟨R,hd⟩:=h.pre
  rw [zJ5 (k:=t.fl.length) (by rw [hd];exact zDF _ (Tr.wf_cns h.wf)),Tr.fl_len];omega
theorem At.kids {L : List Nd} {n : Nat} {x : Nd} {ks : List Tr} (h : At L n (.mk x ks)) : zBV L (n : Int) = (List.range ks.length).map fun i=>((kidAt n ks i : Nat) : Int):=by
  obtain ⟨R,hN⟩:=h.node
  rw [hN.kidsEq,zHs,List.length_map]
  refine List.map_congr_left fun i _=>?_
  rw [← List.map_take,zPZ,kidAt];omega
theorem At.kids_get {L : List Nd} {n : Nat} {x : Nd} {ks : List Tr} (h : At L n (.mk x ks)) {i : Nat} (hi : i < ks.length) : (zBV L (n : Int))[i]? = some ((kidAt n ks i : Nat) : Int):=by
  rw [h.kids,List.getElem?_map,List.getElem?_range hi];rfl
theorem At.kids_len {L : List Nd} {n : Nat} {x : Nd} {ks : List Tr} (h : At L n (.mk x ks)) : (zBV L (n : Int)).length = ks.length:=by
  rw [h.kids,List.length_map,List.length_range]
theorem At.kidn {L : List Nd} {n : Nat} {x : Nd} {ks : List Tr} (h : At L n (.mk x ks)) : x.kids = ks.length:=by
  have:=h.wf;rw [Tr.wf] at this;exact this.1
theorem At.sub {L : List Nd} {n : Nat} {t : Tr} (h : At L n t) : subF L (n : Int) = t.fl:=by
  obtain ⟨R,hd⟩:=h.pre
  rw [subF,h.endF,if_neg (by omega),Int.toNat_natCast,Int.toNat_natCast,List.drop_take,hd,show n + t.sz - n = t.fl.length by rw [Tr.fl_len];omega,List.take_left]
end Go.Proofs.YtblomnkamngnbaaGreatDoor
namespace Go.Proofs.YtblomnkamngnbaaGreatDoor
open Go.Sx Go.RowKit
theorem ff_0 : zBM Tryz.prog 139 0 = some 0:=by kernel_rfl
theorem ff_1 : zBM Tryz.prog 139 1 = some 1:=by kernel_rfl
theorem ff_2 : zBM Tryz.prog 139 2 = some 2:=by kernel_rfl
theorem ff_3 : zBM Tryz.prog 139 3 = some 3:=by kernel_rfl
theorem ff_4 : zBM Tryz.prog 139 4 = some 4:=by kernel_rfl
theorem fd_0 : zBM Tryz.prog 120 0 = some 0:=by kernel_rfl
theorem fd_1 : zBM Tryz.prog 120 1 = some 1:=by kernel_rfl
theorem fd_2 : zBM Tryz.prog 120 2 = some 2:=by kernel_rfl
theorem zEl : zBK Tryz.prog 139 = some (true,5):=by kernel_rfl
theorem zRv : zBK Tryz.prog 34 = some (false,1):=by kernel_rfl
theorem zMX : zBK Tryz.prog 115 = some (false,1):=by kernel_rfl
theorem zIq : zBK Tryz.prog 118 = some (false,1):=by kernel_rfl
theorem zDN : zBm Tryz.prog 139 = some [.bool false,.bool false,.nilFunc,.nilFunc,.bool false]:=by kernel_rfl
theorem zGu : zCs Tryz.prog 139 = some [(0,1),(1,1),(2,1),(3,1),(4,1)]:=by kernel_rfl
theorem zOK : zBm Tryz.prog 120 = some [.slice none 0 0,.map none,.slice none 0 0]:=by kernel_rfl
theorem zOt : zCs Tryz.prog 120 = some [(0,1),(1,1),(2,1)]:=by kernel_rfl
theorem fy_s : fnTy Tryz.prog 34 = true:=by kernel_rfl
theorem zH5 : zDZ Tryz.prog 118 = some (9,3):=by kernel_rfl
theorem zGm : zFr Tryz.prog 3 = some (.val (.int .i64 0)):=by kernel_rfl
theorem zJg : zCs Tryz.prog 68 = some [(0,1),(1,1),(2,1),(3,1)]:=by kernel_rfl
theorem zJt : zAT Tryz.prog 29 = true:=by kernel_rfl
theorem zJu : zAT Tryz.prog 30 = true:=by kernel_rfl
theorem zJw : zAT Tryz.prog 143 = true:=by kernel_rfl
theorem zRI : zAT Tryz.prog 166 = true:=by kernel_rfl
theorem zFI : zAT Tryz.prog 126 = true:=by kernel_rfl
theorem zNx : zAT Tryz.prog 144 = true:=by kernel_rfl
theorem zNw : zAT Tryz.prog 145 = true:=by kernel_rfl
theorem zDQ : zAT Tryz.prog 104 = true:=by kernel_rfl
theorem zRD : zAT Tryz.prog 97 = true:=by kernel_rfl
theorem zHY : zAT Tryz.prog 95 = true:=by kernel_rfl
theorem zKw : zAT Tryz.prog 56 = true:=by kernel_rfl
theorem zI7 : zAT Tryz.prog 96 = true:=by kernel_rfl
theorem zI6 : zAT Tryz.prog 98 = true:=by kernel_rfl
theorem zIG : zAT Tryz.prog 100 = true:=by kernel_rfl
theorem zPI : zAT Tryz.prog 103 = true:=by kernel_rfl
theorem zCm : zAT Tryz.prog 34 = true:=by kernel_rfl
theorem zSp : zAT Tryz.prog 60 = true:=by kernel_rfl
theorem zIK : zAT Tryz.prog 106 = true:=by kernel_rfl
theorem zIE : zAT Tryz.prog 129 = true:=by kernel_rfl
def zD9 (s : List UInt8) : Bool:=zDY ⟨1,s,0,0⟩ || zDY ⟨5,s,0,0⟩
def conF (s : List UInt8) : Bool:=zDY ⟨2,s,0,0⟩
def patK (k : Int) : Bool:=decide (21 ≤ k ∧ k ≤ 24)
def okK (k : Int) : Bool:=decide ((1 ≤ k ∧ k ≤ 12) ∨ (21 ≤ k ∧ k ≤ 24))
def numK (k : Int) : Bool:=decide (k = 1 ∨ k = 23)
def namK (k : Int) : Bool:=decide (k = 3 ∨ k = 5 ∨ k = 7 ∨ k = 8 ∨ k = 12 ∨ k = 22)
def cntK (k n : Int) : Bool :=
  if k = 5 ∨ k = 11 then decide (n = 1) else if k = 6 ∨ k = 7 ∨ k = 8 ∨ k = 12 then decide (n = 2) else if k = 9 then decide (n = 3)
  else if k = 10 then decide (3 ≤ n ∧ n % 2 = 1) else if k = 24 then true else decide (n = 0)
def zD8 (x : Nd) (k1 : Int) (pat : Bool) : Int :=
  if okK x.kind = false ∨ patK x.kind ≠ pat ∨ cntK x.kind x.kids = false then 61
  else if (numK x.kind = true ∧ W x.num ≠ x.num) ∨ (numK x.kind = false ∧ x.num ≠ 0) then 61
  else if (x.kind = 2 ∧ 200 < x.text.length) ∨ (x.kind ≠ 2 ∧ namK x.kind = false ∧ x.kind ≠ 4 ∧ x.kind ≠ 24 ∧ x.text ≠ []) then 61
  else if x.kind = 8 ∧ k1 ≠ 5 then 61
  else if (namK x.kind = true ∧ zD9 x.text = false) ∨ ((x.kind = 4 ∨ x.kind = 24) ∧ conF x.text = false) then 62
  else 0
def Tr.kind1 : Tr → Int
  | .mk _ (k :: _)=>k.hd.kind
  | .mk _ []=>0
mutual
def Tr.werr : Tr → Bool → Int
  | .mk x ks,pat=>if zD8 x (Tr.kind1 (.mk x ks)) pat ≠ 0 then zD8 x (Tr.kind1 (.mk x ks)) pat else zDX (decide (x.kind = 10)) pat ks 0
def zDX (m pat : Bool) : List Tr → Nat → Int
  | [],_=>0
  | t :: r,i=>if t.werr (pat || (m && decide (i % 2 = 1))) ≠ 0 then t.werr (pat || (m && decide (i % 2 = 1))) else zDX m pat r (i + 1)
end
def zBJ (L : List Nd) : List (List UInt8):=L.filterMap fun n=>if n.kind = 22 then some n.text else none
mutual
def Tr.tw : Tr → Bool
  | .mk x ks=>if patK x.kind then !decide (zBJ (x :: flL ks)).Nodup else twL ks
def twL : List Tr → Bool
  | []=>false
  | t :: r=>t.tw || twL r
end
end Go.Proofs.YtblomnkamngnbaaGreatDoor
namespace Go.Proofs.YtblomnkamngnbaaGreatDoor
open Go.Sx Go.RowKit
theorem zCI : zBG Tryz.prog 22 = some 2:=by kernel_rfl
theorem zBw : zBG Tryz.prog 84 = some 3:=by kernel_rfl
theorem zD4 : (zB3 Tryz.prog 22).isSome = true:=by kernel_rfl
theorem zDK : (zB3 Tryz.prog 84).isSome = true:=by kernel_rfl
theorem zNF : zB3 Tryz.prog 22 = some 42:=by kernel_rfl
theorem zCY : zB3 Tryz.prog 84 = some 91:=by kernel_rfl
theorem fg_0 : zBM Tryz.prog 42 0 = some 0:=by kernel_rfl
theorem fg_1 : zBM Tryz.prog 42 1 = some 1:=by kernel_rfl
theorem fy_0 : zBM Tryz.prog 61 0 = some 0:=by kernel_rfl
theorem fy_1 : zBM Tryz.prog 61 1 = some 1:=by kernel_rfl
theorem fy_2 : zBM Tryz.prog 61 2 = some 2:=by kernel_rfl
theorem fy_3 : zBM Tryz.prog 61 3 = some 3:=by kernel_rfl
theorem fl_0 : zBM Tryz.prog 91 0 = some 0:=by kernel_rfl
theorem fl_1 : zBM Tryz.prog 91 1 = some 1:=by kernel_rfl
theorem fl_2 : zBM Tryz.prog 91 2 = some 2:=by kernel_rfl
theorem zFi : zBK Tryz.prog 42 = some (true,2):=by kernel_rfl
theorem zHC : zBK Tryz.prog 91 = some (true,3):=by kernel_rfl
theorem zHr : zBK Tryz.prog 22 = some (false,1):=by kernel_rfl
theorem zDw : zBK Tryz.prog 58 = some (false,1):=by kernel_rfl
theorem zIr : zBK Tryz.prog 76 = some (false,1):=by kernel_rfl
theorem zHB : zDG Tryz.prog 91 = some 3:=by kernel_rfl
theorem zTT : zDG Tryz.prog 42 = some 2:=by kernel_rfl
theorem zFK : zDA Tryz.prog 84 = some 64:=by kernel_rfl
theorem zS6 : zDA Tryz.prog 22 = some 40:=by kernel_rfl
theorem zHl : (zBm Tryz.prog 91).isSome = true:=by kernel_rfl
theorem zTO : (zBm Tryz.prog 42).isSome = true:=by kernel_rfl
theorem zEz : zBm Tryz.prog 91 = some [.string ByteArray.empty,.slice none 0 0,.slice none 0 0]:=by kernel_rfl
theorem zMM : zBm Tryz.prog 42 = some [.string ByteArray.empty,.slice none 0 0]:=by kernel_rfl
theorem zTR : zBm Tryz.prog 76 = some [.nilFunc]:=by kernel_rfl
theorem zTQ : zBm Tryz.prog 52 = some [.slice none 0 0]:=by kernel_rfl
theorem zML : zBm Tryz.prog 61 = some [.pointer none,.slice none 0 0,.slice none 0 0,.int .i64 0]:=by kernel_rfl
theorem zMk : zCs Tryz.prog 61 = some [(0,1),(1,1),(2,1),(3,1)]:=by kernel_rfl
theorem zHE : zCs Tryz.prog 91 = some [(0,1),(1,1),(2,1)]:=by kernel_rfl
theorem zD3 : zAT Tryz.prog 10 = true:=by kernel_rfl
theorem zNv : zAT Tryz.prog 28 = true:=by kernel_rfl
theorem zPO : zAT Tryz.prog 53 = true:=by kernel_rfl
theorem zTw : zAT Tryz.prog 32 = true:=by kernel_rfl
theorem zTr : zAT Tryz.prog 105 = true:=by kernel_rfl
theorem zTu : zAT Tryz.prog 59 = true:=by kernel_rfl
theorem zEs : zAT Tryz.prog 33 = true:=by kernel_rfl
theorem zRN : zAT Tryz.prog 113 = true:=by kernel_rfl
theorem zFH : zAT Tryz.prog 35 = true:=by kernel_rfl
theorem zGV : zAT Tryz.prog 12 = true:=by kernel_rfl
theorem zJv : zAT Tryz.prog 36 = true:=by kernel_rfl
theorem zFG : zAT Tryz.prog 57 = true:=by kernel_rfl
theorem zNu : zAT Tryz.prog 58 = true:=by kernel_rfl
theorem zK0 : zAT Tryz.prog 61 = true:=by kernel_rfl
theorem zJy : zAT Tryz.prog 15 = true:=by kernel_rfl
theorem zHa : zAT Tryz.prog 38 = true:=by kernel_rfl
theorem zDE : zAT Tryz.prog 39 = true:=by kernel_rfl
theorem zJx : zAT Tryz.prog 63 = true:=by kernel_rfl
theorem zDn : zAT Tryz.prog 64 = true:=by kernel_rfl
theorem zD2 : zAT Tryz.prog 65 = true:=by kernel_rfl
theorem zCN : zAT Tryz.prog 66 = true:=by kernel_rfl
theorem zPH : zAT Tryz.prog 67 = true:=by kernel_rfl
theorem zM9 : zAT Tryz.prog 68 = true:=by kernel_rfl
theorem zR3 : zAT Tryz.prog 69 = true:=by kernel_rfl
theorem zL1 : zAT Tryz.prog 117 = true:=by kernel_rfl
theorem zFx : zAT Tryz.prog 70 = true:=by kernel_rfl
theorem zKv : zAT Tryz.prog 111 = true:=by kernel_rfl
theorem zJp : zAT Tryz.prog 112 = true:=by kernel_rfl
theorem zRC : zAT Tryz.prog 132 = true:=by kernel_rfl
theorem zPM : zAT Tryz.prog 115 = true:=by kernel_rfl
theorem zSq : zAT Tryz.prog 116 = true:=by kernel_rfl
theorem zR6 : zAT Tryz.prog 135 = true:=by kernel_rfl
structure Sg where
  name : List UInt8
  ty : List Nd
abbrev Sg.cells (s : Sg) : List D:=[str s.name,zAc s.ty]
def Sg.av (s : Sg) : D:=.agg s.cells
def sigs (E : List Sg) : D:=.slice (E.map Sg.av)
structure Lc where
  name : List UInt8
  t : List Nd
  any : List Int
abbrev Lc.cells (s : Lc) : List D:=[str s.name,zAc s.t,zBj s.any]
def Lc.av (s : Lc) : D:=.agg s.cells
def locs (N : List Lc) : D:=.slice (N.map Lc.av)
def zBi : Tr → List (List Nd) × List Nd
  | .mk x [a,b]=>if x.text = arrT then (a.fl :: (zBi b).1,(zBi b).2) else ([],(Tr.mk x [a,b]).fl)
  | t=>([],t.fl)
theorem zEV {x : Nd} {ks : List Tr} (h : x.text ≠ arrT) : zBi (.mk x ks) = ([],(Tr.mk x ks).fl):=by
  unfold zBi;split
  · rename_i y a b he;injection he with h1 h2;subst h1;rw [if_neg h];simp_all
  · rfl
theorem zDr {x : Nd} {a b : Tr} (h : x.text = arrT) : zBi (.mk x [a,b]) = (a.fl :: (zBi b).1,(zBi b).2):=by
  rw [zBi,if_pos h]
theorem zHd {x : Nd} {ks : List Tr} (h : ∀ n ∈ (Tr.mk x ks).fl,zBh n = true) : zBh x = true ∧ ∀ k ∈ ks,∀ n ∈ k.fl,zBh n = true:=by
  rw [Tr.fl] at h
  refine ⟨h x List.mem_cons_self,fun k hk n hn=>h n (List.mem_cons_of_mem _ ?_)⟩
  rw [zFg];exact List.mem_flatten.2 ⟨k.fl,List.mem_map.2 ⟨k,hk,rfl⟩,hn⟩
theorem zS8 {x : Nd} (h : zBh x = true) (ht : x.text = arrT) : x.kids = 2:=by
  unfold zBh at h
  rw [ht] at h
  split at h
  · rename_i hk;simp [arrT] at h
  · split at h
    · cases h
    · simpa using h
theorem zJ6 {x : Nd} {ks : List Tr} (h : ∀ n ∈ (Tr.mk x ks).fl,zBh n = true) (hw : (Tr.mk x ks).wf) (ht : x.text = arrT) : ∃ a b,ks = [a,b]:=by
  have h2:=zS8 (zHd h).1 ht
  rw [Tr.wf] at hw
  match ks,hw with
  | [a,b],_=>exact ⟨a,b,rfl⟩
  | [],hw=>simp at hw;omega
  | [_],hw=>simp at hw;omega
  | _ :: _ :: _ :: _,hw=>simp at hw;omega
theorem zFW : ∀ (m : Nat) (t : Tr),t.sz ≤ m → (zBi t).1.length + (zBi t).2.length ≤ t.sz ∧ (∀ a ∈ (zBi t).1,a.length ≤ t.sz) ∧ ((zBi t).1.map List.length).sum ≤ t.sz
  | 0,t,h=>by have:=zBR t;omega
  | m + 1,t,h=>by
    match t,h with
    | .mk x [a,b],h =>
      rw [Tr.sz,szL,szL,szL] at h
      have hb:=zFW m b (by omega)
      have hfa:=Tr.fl_len a
      by_cases hx : x.text = arrT
      · rw [zDr hx]
        refine ⟨?_,fun c hc=>?_,?_⟩
        · rw [Tr.sz,szL,szL,szL];simp only [List.length_cons];have:=zBR a;omega
        · rw [Tr.sz,szL,szL,szL]
          rcases List.mem_cons.1 hc with e | e
          · subst e;omega
          · have:=hb.2.1 c e;omega
        · rw [Tr.sz,szL,szL,szL];simp only [List.map_cons,List.sum_cons];omega
      · rw [zEV hx]
        exact ⟨by simp [Tr.fl_len],by simp,by simp⟩
    | .mk x [],h=>exact ⟨by simp [zBi,Tr.fl_len],by simp [zBi],by simp [zBi]⟩
    | .mk x [_],h=>exact ⟨by simp [zBi,Tr.fl_len],by simp [zBi],by simp [zBi]⟩
    | .mk x (_ :: _ :: _ :: _),h=>exact ⟨by simp [zBi,Tr.fl_len],by simp [zBi],by simp [zBi]⟩
def zI2 : Nat → List Nd → List (List Nd) × List Nd
  | 0,t=>([],t)
  | m + 1,t=>match t with
    | []=>([],[])
    | x :: _=>if x.text = arrT then (match zBV t 0 with
        | a :: b :: _=>((t.take b.toNat).drop a.toNat :: (zI2 m (t.drop b.toNat)).1,(zI2 m (t.drop b.toNat)).2)
        | _=>([],t)) else ([],t)
def zCG (t : List Nd) : List (List Nd) × List Nd:=if ckT t = 0 then zI2 t.length t else ([],[])
theorem zH3 : ∀ (m : Nat) (T : Tr),T.sz ≤ m → T.wf → (∀ n ∈ T.fl,zBh n = true) → zI2 m T.fl = zBi T
  | 0,T,h,_,_=>by have:=zBR T;omega
  | m + 1,.mk x ks,h,hw,hr=>by
    have hfl : (Tr.mk x ks).fl = x :: flL ks:=by rw [Tr.fl]
    by_cases ht : x.text = arrT
    · obtain ⟨a,b,rfl⟩:=zJ6 hr hw ht
      have hk:=(At.top hw).kids
      have e0 : kidAt 0 [a,b] 0 = 1:=zCD 0 _
      have e1 : kidAt 0 [a,b] 1 = 1 + a.sz:=by rw [zCu (k:=a) rfl,e0]
      have hk2 : zBV (Tr.mk x [a,b]).fl 0 = [((1 : Nat) : Int),((1 + a.sz : Nat) : Int)]:=by
        have hk3 : zBV (Tr.mk x [a,b]).fl 0 = [((kidAt 0 [a,b] 0 : Nat) : Int),((kidAt 0 [a,b] 1 : Nat) : Int)]:=hk
        rw [e0,e1] at hk3;exact hk3
      have hfa : (Tr.mk x [a,b]).fl = x :: (a.fl ++ b.fl):=by rw [Tr.fl,flL,flL,flL,List.append_nil]
      have hla:=Tr.fl_len a
      have hXa : ((Tr.mk x [a,b]).fl.take (((1 + a.sz : Nat) : Int)).toNat).drop (((1 : Nat) : Int)).toNat = a.fl:=by
        rw [hfa,Int.toNat_natCast,Int.toNat_natCast,Nat.add_comm,List.take_succ_cons,List.drop_succ_cons,List.drop_zero,← hla,List.take_left]
      have hXb : (Tr.mk x [a,b]).fl.drop (((1 + a.sz : Nat) : Int)).toNat = b.fl:=by
        rw [hfa,Int.toNat_natCast,Nat.add_comm,List.drop_succ_cons,← hla,List.drop_left]
      have ih:=zH3 m b (by rw [Tr.sz,szL,szL,szL] at h;omega) ((zCT.1 (by rw [Tr.wf] at hw;exact hw.2)) b (by simp)) ((zHd hr).2 b (by simp))
      rw [zDr ht,← ih,← hXb,← hXa]
      generalize (Tr.mk x [a,b]).fl = t at *
      subst hfl
      rw [zI2,if_pos ht,hk2]
    · rw [zEV ht]
      generalize (Tr.mk x ks).fl = t at *
      subst hfl
      rw [zI2,if_neg ht]
theorem zDz {T : Tr} (hw : T.wf) (h : ckT T.fl = 0) : zCG T.fl = zBi T:=by
  rw [zCG,if_pos h]
  have h2 : okT T.fl = true:=by unfold ckT at h;split at h <;> first | assumption | cases h
  simp only [okT,Bool.and_eq_true,List.all_eq_true] at h2
  exact zH3 _ T (by rw [Tr.fl_len];exact Nat.le_refl _) hw h2.2
theorem zIU {t : List Nd} (h : ckT t = 0) : ∃ T : Tr,T.fl = t ∧ T.wf ∧ (∀ n ∈ t,zBh n = true) ∧ T.sz ≤ 4000:=by
  have h2 : okT t = true:=by unfold ckT at h;split at h <;> first | assumption | cases h
  simp only [okT,Bool.and_eq_true,List.all_eq_true,decide_eq_true_eq] at h2
  obtain ⟨T,h3,h4⟩:=zFS.1 h2.1.2
  exact ⟨T,h3,h4,h2.2,by rw [← Tr.fl_len,h3];exact h2.1.1⟩
def envB (E : List Sg) (i : Nat) (s : Sg) : Bool :=
  (!nameF s.name && !conF s.name) || decide (ckT s.ty ≠ 0) || (E.take i).any (fun x=>decide (x.name = s.name)) ||
  (conF s.name && !conF (((zCG s.ty).2.map Nd.text).headD []))
def zL6 (E : List Sg) : Nat → List Sg → Bool
  | _,[]=>true
  | i,s :: r=>!envB E i s && zL6 E (i + 1) r
def envF (E : List Sg) : Bool:=zL6 E 0 E
mutual
def Tr.val : Tr → Bool
  | .mk x ks=>if 1 ≤ x.kind ∧ x.kind ≤ 5 then true else if x.kind = 6 then (match ks with
    | k :: r=>(decide (k.hd.kind = 4) || decide (k.hd.kind = 6)) && (k.val && valL r)
    | []=>false) else false
def valL : List Tr → Bool
  | []=>true
  | t :: _=>t.val
end
end Go.Proofs.YtblomnkamngnbaaGreatDoor
namespace Go.Proofs.YtblomnkamngnbaaGreatDoor
open Go.ChangeShapes Go.WideShapes Go.ChangeAt Go.RowKit Go.Deep Go.Sx
theorem zOT : Tryz.prog.underlying 22 = some (.slice 42):=by kernel_rfl
theorem zTU : Tryz.prog.underlying 42 = some (.struct #[⟨"Name",9,0,false, "", "",0⟩,⟨"Type",23,1,false, "", "",16⟩]):=by kernel_rfl
theorem zT8 : Tryz.prog.cellsOf 42 = 2:=by kernel_rfl
theorem zSd : oneCellFields Tryz.prog #[⟨"Name",9,0,false, "", "",0⟩,⟨"Type",23,1,false, "", "",16⟩] = true:=by kernel_rfl
set_option maxRecDepth 100000 in
theorem zSY {H : Type} {enc : TypeId × Value → H} {W : World} {fuel : Nat} {cs : List Value} {x : DataW H × List MemPlace} (h : DataW.trod enc Tryz.prog W 0 (fun _=>true) true fuel 22 cs = some x) :
    ∃ v E,cs = [v] ∧ v.oneCell' = true ∧ RepD (big W) W v (sigs E):=by
  rcases zH4 zOT zTU zSd zT8 h with h0 | ⟨a,len,cap,hcs,hl,hm,hi⟩
  · exact ⟨_,[],h0,rfl,zOm⟩
  · obtain ⟨E,hL,hq⟩:=zEu (Q:=fun i (s : Sg)=>W.cell? (a.add (i * 2 + 0)) = some (.string ⟨s.name.toArray⟩) ∧ ∃ u,W.cell? (a.add (i * 2 + 1)) = some u ∧ u.oneCell' = true ∧ RepD (big W) W u (zAc s.ty)) len (fun i hil=>by
      obtain ⟨n,hf⟩:=hi i hil
      obtain ⟨u0,y0,c0,t0⟩:=hf 0 _ rfl
      obtain ⟨u1,y1,c1,t1⟩:=hf 1 _ rfl
      obtain ⟨s,e0,_,_⟩:=DataW.trod_string zRs t0
      injection e0 with e0
      subst e0
      obtain ⟨v,L,e1,o1,r1⟩:=zMq t1
      injection e1 with e1
      subst e1
      exact ⟨⟨s.data.toList,L⟩,c0,u1,c1,o1,r1⟩)
    refine ⟨_,E,hcs,rfl,zKY (sz:=2) (by rw [List.length_map,hL]) hl hm (zCC fun _=>rfl) (by decide) fun i d hd o c hc=>?_⟩
    rw [List.getElem?_map] at hd
    cases hn : E[i]? with
    | none=>rw [hn] at hd;cases hd
    | some s =>
      rw [hn] at hd;injection hd with hd;subst hd
      obtain ⟨h1,u,h2,h3,h4⟩:=hq i s hn
      match o,hc with
      | 0,hc=>injection hc with hc;subst hc;exact ⟨_,h1,rfl,.val _⟩
      | 1,hc=>injection hc with hc;subst hc;exact ⟨u,h2,h3,h4⟩
      | o + 2,hc=>exact absurd hc (by simp [Sg.av,D.flat])
set_option maxRecDepth 100000 in
theorem zQe {H : Type} {enc : TypeId × Value → H} {W : World} {r : Reach} {b0 : Nat} {v : Value} {d : DataW H} {p : List MemPlace} (hv : Value.okWide Tryz.prog W r b0 22 v) (h : DataW.Trod enc Tryz.prog W 0 (fun _=>true) true 22 v d p) :
    ∃ E,RepD (big W) W v (sigs E):=by
  obtain ⟨a,len,cap,rfl⟩:=okWide_slice zOT hv
  obtain ⟨fuel,hf⟩:=h
  obtain ⟨v',E,hc,_,hr⟩:=zSY hf
  simp [Value.cells] at hc
  subst hc
  exact ⟨E,hr⟩
end Go.Proofs.YtblomnkamngnbaaGreatDoor
namespace Go.Proofs.YtblomnkamngnbaaGreatDoor
open Go.ChangeShapes Go.WideShapes Go.ChangeAt Go.RowKit Go.Deep Go.Sx
theorem Tryz.own : ownKnob Tryz.prog.godebug = none:=by kernel_rfl
theorem Tryz.laidOut : laidOutB Tryz.prog = true:=by kernel_rfl
section
variable {H : Type} {enc : TypeId × Value → H}
theorem zON {a : Assume} {C : Checked} {os : Os} {f : FuncId} {fn : Func} {s : ChangeSpec} {conds : List PathCond} {apart fresh handsOn again : Bool} {X : World → Array Value → Prop}
    (hX : ∀ (w w' : World) (args : Array Value),w.heap = w'.heap → X w args → X w' args)
    (own : ownKnob C.prog.godebug = none) (started : os.Started) (noInit : C.prog.inits.idxOf? f = none) (hfn : C.prog.funcs[f]? = some fn)
    (witness : ∃ (w : World) (tape : Tape) (i : Input),w.os = os ∧ (w.forCall tape i).Shaped C.prog ∧ i.vars = [] ∧ Input.okWide C.prog (w.forCall tape i) .any w.heap.size f i ∧
      ((s.pre enc C.prog fn conds apart (w.forCall tape i).memory i.args ∧ X (w.forCall tape i).memory i.args) ∧ sizedMet enc C.prog fn (OpenSpec.ofChange s) apart (w.forCall tape i).memory i.args) ∧ a.holds C.prog (lone (Frame.enter C.prog f i.args .normal) [] (w.forCall tape i)))
    (contract : ∀ (W : World) (base : Nat) (args : Array Value) (ds gs : List (DataW H)) (before : List MemPlace),
      (∀ (j : Nat) t v,fn.params[j]? = some t → args[j]? = some v → Value.okWide C.prog W .any base t v) →
      DataW.Whole enc C.prog fn.params.toList s.vars apart W args.toList ds gs before → X W args → W.ShapedOpen C.prog →
      Calls C.prog f args W fun e W'=>∃ v,e = .returned v ∧ s.post enc C.prog fn apart fresh handsOn again W args v W') :
    ReturnsInHanded a C os f .any (fun w args=>(s.pre enc C.prog fn conds apart w args ∧ X w args) ∧ sizedMet enc C.prog fn (OpenSpec.ofChange s) apart w args) (s.post enc C.prog fn apart fresh handsOn again):=by
  refine returnsInHanded_of_calls own started noInit witness ?_
  intro w tape i _ hsh _ hok hpre _
  obtain ⟨_,_,_,fn',hfn',_,_,_,_,hval⟩:=hok
  have e : fn' = fn:=Option.some.inj (hfn'.symm.trans hfn)
  subst e
  obtain ⟨⟨⟨ds,gs,before,hw,_⟩,hx⟩,_⟩:=hpre
  have hw':=DataW.Whole.of_heap (w':=w.forCall tape i) (by rfl) hw
  refine (contract (w.forCall tape i) w.heap.size i.args ds gs before hval hw' (hX _ _ _ (by rfl) hx) hsh).mono fun e W' ⟨v,he,hp⟩=>?_
  subst he
  exact ChangeSpec.post_blind hp
end
theorem zKK {P : Program} {W : World} {n : String} {g : Nat} {cs : Array Value} (hg : P.globalNamed n = some g) (hv : W.var? P n = some cs) : ∃ e t,W.heap[g]? = some (.cells cs e t):=by
  simp only [World.var?,hg,Option.bind_some] at hv
  split at hv
  · rename_i h;injection hv with hv;subst hv;exact ⟨_,_,h⟩
  · cases hv
def zHq : List (String × DataW Unit):=Rows.inferTellsRow.laid
theorem zSr {W : World} (hsh : W.ShapedOpen Tryz.prog) (hL : laidMetH Tryz.prog zHq W) : Glob (big W) W:=by
  rw [MakeChecks.laidMetH_plain _ _ _ (by kernel_rfl)] at hL
  have h2:=laidMet.tail (laidMet.tail hL)
  have e2 : (Rows.laid_internal_strconv_uint64pow10 : DataW Unit) = Lib.tabData .u64 Lib.pow10Tab:=by kernel_rfl
  rw [e2] at h2
  have ht:=Lib.tabIs_of_head (g:=0) (t:=174) (e:=134) (n:=20) (by kernel_rfl) (by kernel_rfl) (by kernel_rfl) (by kernel_rfl) (by kernel_rfl) (by kernel_rfl) h2
  have h5:=laidMet.tail (laidMet.tail h2)
  have e5 : (Rows.laid_strings_asciiSpace : DataW Unit) = Lib.tabData .u8 Lib.asciiSpaceTab:=by kernel_rfl
  rw [e5] at h5
  have hs:=Lib.tabIs_of_head (g:=1) (t:=176) (e:=5) (n:=256) (by kernel_rfl) (by kernel_rfl) (by kernel_rfl) (by kernel_rfl) (by kernel_rfl) (by kernel_rfl) h5
  obtain ⟨cs8,hh8,_,_⟩:=hsh.1 6 #[.pointer none] 189 (of_decide_eq_true (by kernel_rfl)) (by kernel_rfl)
  have hsz : 6 < W.heap.size:=(Array.getElem?_eq_some_iff.1 hh8).1
  obtain ⟨m,hm⟩:=cell_of_shapedOpen_int (P:=Tryz.prog) (g:=3) (t:=3) (zero:=#[.int .i64 0]) hsh (of_decide_eq_true (by kernel_rfl)) (by kernel_rfl) rfl (by kernel_rfl) (by kernel_rfl) uint
  obtain ⟨cs0,hh,hc0,_⟩:=hsh.1 3 #[.int .i64 0] 3 (of_decide_eq_true (by kernel_rfl)) (by kernel_rfl)
  have hc : cs0 = #[.int .i64 m]:=by
    obtain ⟨l⟩:=cs0
    match l,hc0 with
    | [c],_ =>
      simp [World.cell?,hh] at hm
      rw [hm]
  subst hc
  exact ⟨fun k hk o=>Nat.lt_of_lt_of_le hk hsz,⟨m,_,_,hh⟩,zKK (by kernel_rfl) ht,zKK (by kernel_rfl) hs⟩
end Go.Proofs.YtblomnkamngnbaaGreatDoor
namespace Go.Proofs.YtblomnkamngnbaaGreatDoor
open Go.Sx
structure TS where
  nx : Int
  st : Sto
  er : Int
abbrev tyO (L : List Nd) (E : List Sg) (S : TS) : List Ob:=[.bx none none [.ptr 1 0,.d (zAc L),.d (sigs E),.d (i64 S.er)],.bx none none [.d (i64 S.nx),.mp 2],.map none (mSto S.st)]
def zHQ (S : TS) (e : Int) : TS:=if S.er = 0 then { S with er:=e } else S
def zCk (S : TS) : TS:=if S.nx > 1048576 then zHQ { S with nx:=S.nx + 1 } 113 else { S with nx:=S.nx + 1 }
def zDP (q : Nat) (S : TS) (a b : List Nd) : Option TS:=if S.er ≠ 0 then some S else match uniF q S.st a b with
  | some (e,L)=>some (if e ≠ 0 then zHQ { S with st:=L } 112 else { S with st:=L })
  | none=>none
def zEY (q : Nat) (S : TS) (t : List Nd) : Option (List Nd × TS):=if S.er ≠ 0 then some (t,S) else if ckT t ≠ 0 then some (t,zHQ S 113) else match zIh q S.st t [] with
  | some (m,_)=>if m > 4000 then some (t,zHQ S 113) else match resF q S.st t with
    | some r=>if r.length ≤ 10000 then some (r,S) else none
    | none=>none
  | none=>none
def zBx (s : List UInt8) : List Nd:=[⟨32,s,0,0⟩]
def zGb (a b : List Nd) : List Nd:=⟨32,arrT,0,2⟩ :: (a ++ b)
def zCg : List Int → TS → List Bd × TS
  | [],S=>([],S)
  | v :: r,S=>(⟨v,varN S.nx⟩ :: (zCg r (zCk S)).1,(zCg r (zCk S)).2)
def zGW (S : TS) (t : List Nd) (vs : List Int) : List Nd × TS:=(zFm (zCg vs S).1 t,(zCg vs S).2)
def zKL (E : List Sg) (S : TS) (x : List UInt8) : Option (List Nd × TS):=match E.find? (fun s=>decide (s.name = x)) with
  | some s=>some (zGW S s.ty (zC9 s.ty))
  | none=>none
def zI4 (E : List Sg) (N : List Lc) (S : TS) (x : List UInt8) : Option (List Nd × TS):=match N.reverse.find? (fun l=>decide (l.name = x)) with
  | some l=>some (zGW S l.t l.any)
  | none=>zKL E S x
def zDI (l : List Int) : List Bd:=l.map fun v=>⟨v,zBx intT⟩
def zCh (q : Nat) : List Lc → TS → Option (List Int × TS)
  | [],S=>some ([],S)
  | l :: r,S=>match zEY q S (zFm (zDI l.any) l.t) with
    | some (u,S1)=>match zCh q r S1 with
      | some (b,S2)=>some (zC9 u ++ b,S2)
      | none=>none
    | none=>none
def anyS (q : Nat) (N : List Lc) (S : TS) (x : List UInt8) (t : List Nd) : Option (Lc × TS):=match zEY q S t with
  | some (u,S1)=>match zCh q N S1 with
    | some (b,S2)=>some (⟨x,u,(zC9 u).filter fun v=>!b.contains v⟩,S2)
    | none=>none
  | none=>none
mutual
def Tr.patS (q : Nat) (E : List Sg) : Tr → List Lc → TS → Option (List Nd × List Lc × TS)
  | .mk x ks,N,S=>if x.kind = 23 then some (zBx intT,N,S) else if x.kind = 21 then some (varN S.nx,N,zCk S)
    else if x.kind = 22 then some (varN S.nx,N ++ [⟨x.text,varN S.nx,[]⟩],zCk S)
    else match zKL E S x.text with
      | some (c,S1)=>match patL q E (zCG c).1 ks N S1 with
        | some (N2,S2)=>some ((zCG c).2,N2,S2)
        | none=>none
      | none=>none
def patL (q : Nat) (E : List Sg) : List (List Nd) → List Tr → List Lc → TS → Option (List Lc × TS)
  | _,[],N,S=>some (N,S)
  | a :: ar,k :: r,N,S=>match k.patS q E N S with
    | some (t,N1,S1)=>match zDP q S1 t a with
      | some S2=>patL q E ar r N1 S2
      | none=>none
    | none=>none
  | [],_ :: _,_,_=>none
end
mutual
def Tr.expS (q : Nat) (E : List Sg) : Tr → List Lc → TS → Option (List Nd × TS)
  | .mk x ks,N,S=>if S.er ≠ 0 then some (zBx intT,S) else if x.kind = 1 then some (zBx intT,S) else if x.kind = 2 then some (zBx texT,S)
    else if x.kind = 3 ∨ x.kind = 4 then (match zI4 E N (zCk S) x.text with
      | some (u,S1)=>(match zDP q S1 (varN S.nx) u with
        | some S2=>some (varN S.nx,S2)
        | none=>none)
      | none=>none)
    else expK q E x (List.length ks) ks N S
def expK (q : Nat) (E : List Sg) (x : Nd) (n : Nat) : List Tr → List Lc → TS → Option (List Nd × TS)
  | [],_,_=>none
  | k :: r,N,S=>if x.kind = 5 then (match k.expS q E (N ++ [⟨x.text,varN S.nx,[]⟩]) (zCk S) with
      | some (b,S1)=>some (zGb (varN S.nx) b,S1)
      | none=>none)
    else if x.kind = 8 then (match k.expS q E (N ++ [⟨x.text,varN S.nx,[]⟩]) (zCk S) with
      | some (t,S1)=>(match zDP q S1 (varN S.nx) t with
        | some S2=>(match anyS q N S2 x.text (varN S.nx) with
          | some (y,S3)=>exp1 q E r (N ++ [y]) S3
          | none=>none)
        | none=>none)
      | none=>none)
    else (match k.expS q E N S with
      | some (t,S1)=>if x.kind = 7 then (if k.val then (match anyS q N S1 x.text t with
            | some (y,S2)=>exp1 q E r (N ++ [y]) S2
            | none=>none) else exp1 q E r (N ++ [⟨x.text,t,[]⟩]) S1)
          else if x.kind = 6 then (match exp1 q E r N S1 with
            | some (a,S2)=>(match zDP q (zCk S2) t (zGb a (varN S2.nx)) with
              | some S3=>some (varN S2.nx,S3)
              | none=>none)
            | none=>none)
          else if x.kind = 9 then (match zDP q S1 t (zBx intT) with
            | some S2=>expI q E r N S2
            | none=>none)
          else if x.kind = 11 then (match zDP q S1 t (zBx intT) with
            | some S2=>some (varN S2.nx,zCk S2)
            | none=>none)
          else if x.kind = 12 then (match exp1 q E r (N ++ [⟨x.text,zBx intT,[]⟩]) S1 with
            | some (b,S2)=>(match zDP q S2 t b with
              | some S3=>some (t,S3)
              | none=>none)
            | none=>none)
          else (match expM q E t (varN S1.nx) r N (zCk S1) with
            | some S2=>some (varN S1.nx,S2)
            | none=>none)
      | none=>none)
def exp1 (q : Nat) (E : List Sg) : List Tr → List Lc → TS → Option (List Nd × TS)
  | [],_,_=>none
  | k :: _,N,S=>k.expS q E N S
def expI (q : Nat) (E : List Sg) : List Tr → List Lc → TS → Option (List Nd × TS)
  | [],_,_=>none
  | k :: r,N,S=>match k.expS q E N S with
    | some (t,S1)=>(match exp1 q E r N S1 with
      | some (b,S2)=>(match zDP q S2 t b with
        | some S3=>some (t,S3)
        | none=>none)
      | none=>none)
    | none=>none
def expM (q : Nat) (E : List Sg) (of to' : List Nd) : List Tr → List Lc → TS → Option TS
  | [],_,S=>some S
  | p :: r,N,S=>match p.patS q E N S with
    | some (t,N1,S1)=>(match zDP q S1 t of with
      | some S2=>expN q E of to' N1 r N S2
      | none=>none)
    | none=>none
def expN (q : Nat) (E : List Sg) (of to' : List Nd) (N1 : List Lc) : List Tr → List Lc → TS → Option TS
  | [],_,_=>none
  | k :: r,N,S=>match k.expS q E N1 S with
    | some (b,S1)=>(match zDP q S1 b to' with
      | some S2=>expM q E of to' r N S2
      | none=>none)
    | none=>none
end
end Go.Proofs.YtblomnkamngnbaaGreatDoor
