/- Texts of this claim, merged: NodB, NodC, NodG, NodP, NodT. -/
import Derived.Test.YtblomnkamngnbaaGreatDoorMAC
namespace Go.Proofs.YtblomnkamngnbaaGreatDoor
open Go.Sx
attribute [local irreducible] Ylds zA3 alex zBY zBN awp zAm zBT zBe zAx zBA zBP zA2 zBR zBX zBa
def zCH (L : List Nd) : Bool:=decide (L.length > 0) && decide (endF L 0 = L.length)
theorem zH6 (L : List Nd) (hL : L.length ≤ 2000000) : zAm Tryz.prog 49 [zAc L] (bl (zCH L)):=by
  refine zAd Tryz.func49 rfl Tryz.ntmps49 Tryz.results49 rfl ?_
  intro wb St0
  repeat' first | apply en_n|apply zAH|apply zAC|apply zAF|apply w0|(apply zAX (hb:=zGH) (hc:=zGL L _ hL))|apply ay (hd:=rfl)|exact zAE rfl|exact zAD rfl|(apply zAr;exact rfl;(with_reducible exact zA7))|exact zHp rfl rfl|exact zD7 rfl rfl|exact zAq rfl rfl|exact zAo rfl rfl|(apply w1;exact rfl;exact rfl)|(apply k1 (hd:=rfl);exact rfl;exact rfl)|(apply gD;exact rfl;exact rfl;(intro hb);rotate_left;(intro hb);rotate_right)|apply zAN|apply zAP|(apply res1;exact rfl)|exact zAG|refine zAZ rfl ?_
  · have h : 0 < L.length:=by omega
    simp [zCH,h]
  · have h : ¬ 0 < L.length:=by omega
    simp [zCH,h]
theorem zLz {n : Nat} : ∀ (r : List Nd) (o a : Int),0 ≤ a → zDn n r o a = -1 ∨ a < zDn n r o a ∧ zDn n r o a ≤ a + r.length
  | [],_,_,_=>.inl rfl
  | x :: r,o,a,ha=>by
    unfold zDn
    split
    · exact .inl rfl
    · split
      · rcases zLz r (o + (x.kids - 1)) (a + 1) (by omega) with h | h
        · exact .inl h
        · refine .inr ⟨by omega,?_⟩;simp only [List.length_cons];omega
      · refine .inr ⟨by omega,?_⟩;simp only [List.length_cons];omega
theorem zIs (L : List Nd) (a : Int) : endF L a = -1 ∨ (0 ≤ a ∧ a < endF L a ∧ endF L a ≤ L.length):=by
  unfold endF
  split
  · exact .inl rfl
  · rcases zLz (n:=L.length) (L.drop a.toNat) 1 a (by omega) with h | h
    · exact .inl h
    · refine .inr ⟨by omega,h.1,?_⟩
      have h2:=h.2
      rw [List.length_drop] at h2
      rcases Nat.lt_or_ge a.toNat L.length with h3 | h3
      · omega
      · have h4:=h.1
        rw [List.drop_of_length_le h3] at h4
        simp only [zDn] at h4;omega
theorem zQ4 (L : List Nd) : ∀ (m k : Nat) (p q : Int),L.length - k ≤ m → 1 ≤ p → 1 ≤ q → zDn L.length (L.drop k) (p + q) k = if zDn L.length (L.drop k) p k < 0 then -1 else zDn L.length (L.drop (zDn L.length (L.drop k) p k).toNat) q (zDn L.length (L.drop k) p k):=by
  intro m
  induction m with
  | zero =>
    intro k p q hm _ _
    rw [zEw (by omega),zEw (by omega)];rfl
  | succ m ih =>
    intro k p q hm hp hq
    rcases Nat.lt_or_ge k L.length with hk | hk
    · have hv : L[k]? = some L[k]:=List.getElem?_eq_getElem hk
      rw [zDc hv,zDc hv]
      by_cases hbad : L[k].kids < 0 ∨ L[k].kids > L.length
      · rw [if_pos hbad,if_pos hbad];rfl
      · rw [if_neg hbad,if_neg hbad]
        rw [if_pos (show p + q + (L[k].kids - 1) > 0 by omega)]
        by_cases h1 : p + (L[k].kids - 1) > 0
        · rw [if_pos h1]
          have:=ih (k + 1) (p + (L[k].kids - 1)) q (by omega) (by omega) hq
          rw [show p + q + (L[k].kids - 1) = p + (L[k].kids - 1) + q by omega]
          exact this
        · rw [if_neg h1,if_neg (by omega)]
          rw [show p + q + (L[k].kids - 1) = q by omega]
          rfl
    · rw [zEw hk,zEw hk];rfl
def seqE (L : List Nd) (a : Int) : Nat → Int
  | 0=>a
  | i + 1=>if seqE L a i < 0 then -1 else endF L (seqE L a i)
theorem zPq (L : List Nd) (k : Nat) : ∀ (i : Nat),seqE L k (i + 1) = zDn L.length (L.drop k) (i + 1) k
  | 0=>by
    have h0 : ¬ seqE L (k : Int) 0 < 0:=by simp only [seqE];omega
    have h1 : ¬ (k : Int) < 0:=by omega
    unfold seqE
    rw [if_neg h0]
    show endF L (k : Int) = _
    rw [endF,if_neg h1,Int.toNat_natCast];rfl
  | i + 1=>by
    have ih:=zPq L k i
    show (if seqE L k (i + 1) < 0 then _ else _) = _
    rw [ih,show ((i + 1 : Nat) : Int) + 1 = (i : Int) + 1 + 1 by omega,zQ4 L _ k ((i : Int) + 1) 1 (Nat.le_refl _) (by omega) (by omega)]
    split
    · rfl
    · rename_i h;rw [endF,if_neg h]
theorem zS2 {L : List Nd} {k : Nat} {x : Nd} (h : L[k]? = some x) : endF L k = if x.kids < 0 ∨ x.kids > L.length then -1 else seqE L ((k : Int) + 1) x.kids.toNat:=by
  rw [endF,if_neg (by omega),Int.toNat_natCast,zDc h]
  split
  · rfl
  · rename_i hb
    by_cases h1 : 1 + (x.kids - 1) > 0
    · rw [if_pos h1]
      obtain ⟨i,hi⟩ : ∃ i : Nat,x.kids.toNat = i + 1:=⟨x.kids.toNat - 1,by omega⟩
      rw [hi]
      have:=zPq L (k + 1) i
      rw [show ((k + 1 : Nat) : Int) = (k : Int) + 1 by omega] at this
      rw [this]
      congr 1
      omega
    · rw [if_neg h1]
      have : x.kids.toNat = 0:=by omega
      rw [this];rfl
theorem zNa {L : List Nd} {a : Int} {i : Nat} (h : seqE L a i < 0) : ∀ j,i ≤ j → seqE L a j < 0:=by
  intro j hj
  induction j with
  | zero=>rw [show i = 0 by omega] at h;exact h
  | succ j ih =>
    rcases Nat.lt_or_ge j i with h1 | h1
    · rw [show j + 1 = i by omega];exact h
    · show (if seqE L a j < 0 then _ else _) < 0
      rw [if_pos (ih h1)];omega
theorem zII {L : List Nd} {a : Int} {i : Nat} (h : 0 ≤ seqE L a i) : seqE L a (i + 1) = endF L (seqE L a i):=by
  show (if seqE L a i < 0 then _ else _) = _
  rw [if_neg (by omega)]
theorem zPp {L : List Nd} {a : Int} : ∀ {i : Nat},0 ≤ seqE L a i → a + i ≤ seqE L a i
  | 0,_=>by simp only [seqE];omega
  | i + 1,h=>by
    rcases Int.lt_or_le (seqE L a i) 0 with h1 | h1
    · have:=zNa h1 (i + 1) (by omega);omega
    · have:=zPp h1
      rw [zII h1] at h ⊢
      rcases zIs L (seqE L a i) with h2 | h2 <;> omega
def zKG (L : List Nd) (a : Int) : Nat:=match L[a.toNat]? with
  | some x=>x.kids.toNat
  | none=>0
def zBn (L : List Nd) (a : Int) : List Int:=if endF L a < 0 then [] else (List.range (zKG L a)).map (seqE L (a + 1))
theorem zTh {L : List Nd} {a : Int} (h : ¬ endF L a < 0) : ∃ (k : Nat) (x : Nd),a = k ∧ L[k]? = some x ∧ 0 ≤ x.kids ∧ x.kids ≤ L.length ∧ endF L a = seqE L (a + 1) x.kids.toNat ∧ zKG L a = x.kids.toNat ∧ zBn L a = (List.range x.kids.toNat).map (seqE L (a + 1)):=by
  have hb:=zIs L a
  obtain ⟨k,rfl⟩:=Int.eq_ofNat_of_zero_le (show 0 ≤ a by omega)
  have hk : k < L.length:=by omega
  have hv : L[k]? = some L[k]:=List.getElem?_eq_getElem hk
  have he:=zS2 hv
  have hg : ¬ (L[k].kids < 0 ∨ L[k].kids > L.length):=fun h0=>by rw [if_pos h0] at he;omega
  rw [if_neg hg] at he
  have hkn : zKG L (k : Int) = L[k].kids.toNat:=by unfold zKG;rw [Int.toNat_natCast,hv]
  exact ⟨k,L[k],rfl,hv,by omega,by omega,he,hkn,by rw [zBn,if_neg h,hkn]⟩
theorem zQP (f : Nat → Int) (i : Nat) : ((List.range i).map f).map ival ++ [i64 (f i)] = ((List.range (i + 1)).map f).map ival:=by
  rw [List.range_succ,List.map_append,List.map_append];rfl
theorem zCm (L : List Nd) (at_ : Int) (hL : L.length ≤ 2000000) : zAm Tryz.prog 54 [zAc L,i64 at_] (zBv (zBn L at_)):=by
  refine zAd Tryz.func54 rfl Tryz.ntmps54 Tryz.results54 rfl ?_
  intro wb St0
  repeat' first | apply en_n|apply zAH|apply zAC|apply zAF|apply w0|(apply zAX (hb:=zGH) (hc:=zGL L _ hL))|(apply aI (hd:=rfl);(first|exact zAn rfl|exact Co_bb rfl rfl rfl|exact Co_nn rfl);exact rfl;(with_reducible exact zAa);exact fun _=>rfl;rotate_left;intro v hv;rotate_right)|apply ay (hd:=rfl)|exact zAE rfl|exact zAD rfl|(apply zA5;exact rfl;(with_reducible exact fn_3))|(apply zAi;exact rfl;(with_reducible exact zAz))|exact zDG rfl rfl|(apply zBG;exact rfl;exact rfl)|exact zAY rfl|(apply zA1;exact rfl;(intro hb);rotate_left;(intro hb);rotate_right)|apply zAJ|apply zAT|apply zAN|apply en_r|apply zAP|(apply zSK;exact rfl)|exact zAG|refine zAZ rfl ?_
  · rw [zBn,if_pos hb];rfl
  · have:=zIs L at_;omega
  · have:=zIs L at_;omega
  · obtain ⟨k,x,hak,hx,h0,h1,he,hn,hf⟩:=zTh hb
    subst hak
    obtain rfl : v = x:=by rw [Int.toNat_natCast] at hv;rw [hx] at hv;exact (Option.some.inj hv).symm
    refine zCO 5 false 3 1 rfl rfl ?_
    refine zAs (α:=Nat) (fun i=>i ≤ v.kids.toNat ∧ 0 ≤ seqE L ((k : Int) + 1) i) (fun i=>[(0,.d (zAc L)),(1,.d (i64 (seqE L ((k : Int) + 1) i))),(5,.buf 0 (((List.range i).map (seqE L ((k : Int) + 1))).map ival).length),(6,.d (i64 v.kids))])
      (fun i=>[.buf false 3 1 (((List.range i).map (seqE L ((k : Int) + 1))).map ival)]) (fun i=>v.kids.toNat - i) 0 ⟨Nat.zero_le _,by simp only [seqE];omega⟩
      (zAL (zAA rfl (zAA rfl (zBs rfl rfl (zAA rfl zAW)))) (zAB rfl rfl zAK) rfl rfl) ?_
    rintro i ⟨hi1,hi2⟩
    have hg:=zPp hi2
    repeat' first | apply en_n|apply zAH|apply zAC|apply zAF|apply w0|(apply zAX (hb:=zGH) (hc:=zGL L _ hL))|(apply aApp (hd:=rfl) (hro:=rfl);exact rfl;exact rfl;(first|exact zAn rfl|exact Co_bb rfl rfl rfl|exact Co_nn rfl);(first|exact rfl|(simp;done));exact rfl;(with_reducible exact zDh);(with_reducible exact zBD);(with_reducible exact zKv);(with_reducible exact zI0);(first|exact zCc (fun _=>rfl)|exact zCP rfl))|apply ay (hd:=rfl)|exact zAE rfl|exact zAD rfl|exact zDG rfl rfl|exact zAt rfl|exact zAj rfl|(apply zC3;exact rfl;(with_reducible exact zCU))|(apply zCD;(with_reducible exact zDh);(with_reducible exact zBD);(with_reducible exact zNE);exact rfl;exact rfl;(first|exact zAZ rfl zAG|exact zCo rfl rfl rfl zAG|exact zCs rfl zAG);exact rfl)|(apply zA1;exact rfl;(intro hb);rotate_left;(intro hb);rotate_right)|apply zAJ|apply zAT|apply zAN|apply zAu|apply en_e|apply eb_n|apply eb_e|apply zAP|(apply zJ5;exact rfl;exact rfl;(first|exact rfl|(simp;done)))|exact zAG|refine zAZ rfl ?_
    · simp only [List.length_map,List.length_range,List.length_singleton];omega
    · simp only [List.length_map,List.length_range] at hb
      have h3 : 0 ≤ seqE L ((k : Int) + 1) (i + 1):=by
        rcases Int.lt_or_le (seqE L ((k : Int) + 1) (i + 1)) 0 with h4 | h4
        · have:=zNa (j:=v.kids.toNat) h4 (by omega);omega
        · exact h4
      refine ⟨i + 1,⟨by omega,h3⟩,by omega,?_⟩
      refine zAL (zAA rfl (Le_d rfl ?_ (zBs rfl ?_ (zAA rfl zAW)))) (zAl rfl rfl (zQP _ i).symm zAK) rfl rfl
      · rw [zII hi2]
      · simp only [List.length_map,List.length_range,List.length_singleton]
    · simp only [List.length_map,List.length_range] at hb
      rw [hf,show i = v.kids.toNat by omega];rfl
end Go.Proofs.YtblomnkamngnbaaGreatDoor
namespace Go.Proofs.YtblomnkamngnbaaGreatDoor
open Go.Sx Go.RowKit
attribute [local irreducible] Ylds zA3 alex zBY zBN awp zAm zBT zBe zAx zBA zBP zA2 zBR zBX zBa
def subF (L : List Nd) (a : Int) : List Nd:=if endF L a < 0 then [] else (L.take (endF L a).toNat).drop a.toNat
def subE (L : List Nd) (a : Int) : Int:=if endF L a < 0 then 20 else 0
theorem zS5 {α : Type} {ys : List α} {n : Nat} {z : α} (h : ys.length = n) : ys.take (List.replicate n z).length ++ (List.replicate n z).drop ys.length = ys:=by
  subst h;simp
theorem zWG (L : List Nd) (at_ : Int) (hL : L.length ≤ 2000000) : zAm Tryz.prog 99 [zAc L,i64 at_] (.tup [zAc (subF L at_),i64 (subE L at_)]):=by
  refine zAd Tryz.func99 rfl Tryz.ntmps99 Tryz.results99 rfl ?_
  intro wb St0
  have hbd:=zIs L at_
  repeat' first | apply en_n|apply zAH|apply zAC|apply zAF|apply w0|(refine zGU 22 0 rfl rfl rfl ?_)|(apply zAX (hb:=zGH) (hc:=zGL L _ hL))|(apply zWj (hd:=rfl) (hro:=rfl);exact rfl;exact rfl;(with_reducible exact zBl);(with_reducible exact zAa);(with_reducible exact zT6);exact rfl;exact rfl;(with_reducible exact zDi))|(refine zWl (sz:=4) (hro:=rfl) (hd:=(rfl : Nat.blt _ _ = true)) rfl rfl (List.length_replicate ..).symm (zAn rfl) ?_ (zCc (fun _=>rfl)) ?_;(with_reducible exact zAa))|apply ay (hd:=rfl)|exact zAE rfl|exact zAD rfl|exact zDG rfl rfl|(apply zJC;exact rfl;exact rfl)|exact zAY rfl|exact zAt rfl|exact zAj rfl|(apply Y_sl;(first|exact zAn rfl|exact Co_bb rfl rfl rfl|exact Co_nn rfl);(with_reducible exact zAa);exact rfl;exact rfl;exact fun _=>rfl)|(apply zA1;exact rfl;(intro hb);rotate_left;(intro hb);rotate_right)|apply zAT|apply zAN|apply en_r|apply zAP|(apply zOj;exact rfl;exact rfl)|exact zAG|refine zAZ rfl ?_
  · rw [subF,if_pos hb];rfl
  · rw [subE,if_pos hb]
  · omega
  · omega
  · omega
  · have hy : ((L.take (endF L at_).toNat).drop at_.toNat).length = (endF L at_ - at_).toNat:=by rw [List.length_drop,List.length_take];omega
    have hc:=zS5 (ys:=((L.take (endF L at_).toNat).drop at_.toNat).map Nd.av) (z:=Nd.av ⟨0,[],0,0⟩) (n:=(endF L at_ - at_).toNat) (by rw [List.length_map,hy])
    refine zVF rfl rfl ?_ rfl ?_ ?_
    · exact ((congrArg List.length hc).trans (by rw [List.length_map,hy])).symm
    · rw [subF,if_neg hb];exact congrArg D.slice hc
    · rw [subE,if_neg hb]
end Go.Proofs.YtblomnkamngnbaaGreatDoor
namespace Go.Proofs.YtblomnkamngnbaaGreatDoor
open Go.Sx Go.RowKit
attribute [local irreducible] Ylds zA3 alex zBY zBN awp zAm zBT zBe zAx zBA zBP zA2 zBR zBX zBa
def zMi (n : Nd) (KK : List (List Nd)) : List Nd:={ n with kids:=KK.length } :: KK.flatten
def mkC (n : Nd) (KK : List (List Nd)) (i : Nat) : List Nd:={ n with kids:=KK.length } :: (KK.take i).flatten
theorem zKD {n : Nd} {KK : List (List Nd)} {i : Nat} {v : List Nd} (hv : KK[i]? = some v) : (mkC n KK (i + 1)).map Nd.av = (mkC n KK i).map Nd.av ++ v.map Nd.av:=by
  simp [mkC,List.take_add_one,hv]
theorem zUO (n : Nd) (KK : List (List Nd)) (i : Nat) : (mkC n KK i).length ≤ KK.flatten.length + 1:=by
  have : KK.flatten = (KK.take i).flatten ++ (KK.drop i).flatten:=by rw [← List.flatten_append,List.take_append_drop]
  rw [this];simp only [mkC,List.length_cons,List.length_append];omega
theorem zNC (n : Nd) (KK : List (List Nd)) (h1 : KK.length ≤ 2000000) (h2 : KK.flatten.length ≤ 2000000) : zAm Tryz.prog 16 [n.av,zGl KK] (zAc (zMi n KK)):=by
  refine zAd Tryz.func16 rfl Tryz.ntmps16 Tryz.results16 rfl ?_
  intro wb St0
  repeat' first | apply en_n|apply zAH|apply zAC|apply zAF|apply w0|(apply zV3 (hd:=rfl) (hro:=rfl);exact zBl;exact zAa;exact zDr;exact rfl;exact rfl;exact zAZ rfl zAG;exact rfl)|(apply aBox (hd:=rfl) (hro:=rfl);exact rfl;exact rfl)|apply ay (hd:=rfl)|exact zAE rfl|(apply zAr;exact rfl;(with_reducible exact zG3))|exact zAY rfl|exact zAj rfl|(apply zAS;exact rfl;(with_reducible exact fn_3))|(apply zC1;exact rfl;(with_reducible exact zAb);exact rfl;exact rfl;exact rfl)|(refine w0' ?_)|(apply zA0;exact rfl;exact rfl;exact rfl;(with_reducible exact zAz);exact rfl;exact rfl;exact rfl;exact rfl)|apply zAJ
  · refine zAs (α:=Nat) (fun i=>i ≤ KK.length) (fun i=>[(13,.d (zGl KK)),(14,.d (i64 (KK.length : Int))),(15,.d (i64 (i : Int))),(5,.buf 1 ((mkC n KK i).map Nd.av).length)])
      (fun i=>[.box [.d (.val (.int .i64 n.kind)),.d (.val (.string ⟨n.text.toArray⟩)),.d (.val (.int .i64 n.num)),.d (.val (.int .i64 KK.length))],.buf false 40 4 ((mkC n KK i).map Nd.av)]) (fun i=>KK.length - i) 0 (Nat.zero_le _)
      (zAL (zAA rfl (Le_d rfl rfl (zAA rfl (zBs rfl rfl zAW)))) (zAB rfl rfl (zAB rfl rfl zAK)) rfl rfl) ?_
    intro i hi
    repeat' first | apply en_n|apply zAH|apply zAC|apply zAF|apply w0|(apply aI (hd:=rfl);(first|exact zAn rfl|exact Co_bb rfl rfl rfl|exact Co_nn rfl);exact rfl;(with_reducible exact zCf);exact fun _=>rfl;rotate_left;intro v hv;rotate_right)|(apply aApp (hd:=rfl) (hro:=rfl);exact rfl;exact rfl;(first|exact zAn rfl|exact Co_bb rfl rfl rfl|exact Co_nn rfl);(first|exact rfl|(simp;done));exact rfl;(with_reducible exact zBl);(with_reducible exact zAa);(with_reducible exact zE1);(with_reducible exact zDi);(first|exact zCc (fun _=>rfl)|exact zCP rfl))|apply ay (hd:=rfl)|exact zAE rfl|exact zAD rfl|(apply zAi;exact rfl;(with_reducible exact zAg))|exact zDG rfl rfl|(apply zBG;exact rfl;exact rfl)|exact zAt rfl|exact zAj rfl|(apply zA1;exact rfl;(intro hb);rotate_left;(intro hb);rotate_right)|apply zAJ|apply zAT|apply zAN|apply zAu|apply en_e|apply eb_n|apply eb_e|apply zAP|(apply zJ5;exact rfl;exact rfl;(first|exact rfl|(simp;done)))
    · omega
    · have h3:=zUO n KK (i + 1)
      rw [← List.length_map (f:=Nd.av),zKD (i:=i) hv,List.length_append] at h3
      omega
    · omega
    · have hl : i < KK.length:=by omega
      refine ⟨i + 1,by omega,by omega,zAL (zAA rfl (zAA rfl (zAA rfl (zBs rfl ?_ zAW)))) (zAB rfl rfl (zAl rfl rfl (zKD (i:=i) hv) zAK)) rfl rfl⟩
      rw [zKD (i:=i) hv,List.length_append]
    · rw [zMi,show i = KK.length by omega,mkC,List.take_length];rfl
end Go.Proofs.YtblomnkamngnbaaGreatDoor
namespace Go.Proofs.YtblomnkamngnbaaGreatDoor
def cns : List Nd → Nat → Option Nat
  | _,0=>some 0
  | [],_ + 1=>none
  | x :: r,o + 1=>if x.kids < 0 then none else (cns r (o + x.kids.toNat)).map (· + 1)
theorem zD4 (l : List Nd) : cns l 0 = some 0:=by cases l <;> rfl
theorem zCa (x : Nd) (r : List Nd) (o : Nat) : cns (x :: r) (o + 1) = if x.kids < 0 then none else (cns r (o + x.kids.toNat)).map (· + 1):=rfl
theorem zL6 : ∀ {l : List Nd} {o k : Nat},cns l o = some k → k ≤ l.length
  | l,0,k,h=>by rw [zD4] at h;injection h with h;omega
  | [],o + 1,k,h=>by cases h
  | x :: r,o + 1,k,h=>by
    rw [zCa] at h
    split at h
    · cases h
    · cases hc : cns r (o + x.kids.toNat) with
      | none=>rw [hc] at h;cases h
      | some j=>rw [hc] at h;have:=zL6 hc;simp at h;simp;omega
theorem zG4 : ∀ {l : List Nd} {o k : Nat},cns l o = some k → o ≤ k
  | l,0,k,h=>by omega
  | [],o + 1,k,h=>by cases h
  | x :: r,o + 1,k,h=>by
    rw [zCa] at h
    split at h
    · cases h
    · cases hc : cns r (o + x.kids.toNat) with
      | none=>rw [hc] at h;cases h
      | some j=>rw [hc] at h;have:=zG4 hc;simp at h;omega
theorem zCN : ∀ {l : List Nd} {o k : Nat} (m : List Nd),cns l o = some k → cns (l ++ m) o = some k
  | l,0,k,m,h=>by rw [zD4] at h ⊢;exact h
  | [],o + 1,k,m,h=>by cases h
  | x :: r,o + 1,k,m,h=>by
    rw [List.cons_append,zCa] at *
    split at h
    · cases h
    · rename_i h0
      rw [if_neg h0]
      cases hc : cns r (o + x.kids.toNat) with
      | none=>rw [hc] at h;cases h
      | some j=>rw [hc] at h;rw [zCN m hc];exact h
theorem zOE : ∀ {l : List Nd} {o k : Nat},cns l o = some k → cns (l.take k) o = some k
  | l,0,k,h=>by rw [zD4] at h ⊢;exact h
  | [],o + 1,k,h=>by cases h
  | x :: r,o + 1,k,h=>by
    rw [zCa] at h
    split at h
    · cases h
    · rename_i h0
      cases hc : cns r (o + x.kids.toNat) with
      | none=>rw [hc] at h;cases h
      | some j =>
        rw [hc] at h;simp at h;subst h
        rw [List.take_succ_cons,zCa,if_neg h0,zOE hc];rfl
theorem zFl : ∀ (l : List Nd) (a b : Nat),cns l (a + b) = (cns l a).bind fun k=>(cns (l.drop k) b).map (· + k)
  | l,0,b=>by rw [zD4];simp
  | [],a + 1,b=>by rw [show a + 1 + b = a + b + 1 by omega];rfl
  | x :: r,a + 1,b=>by
    rw [show a + 1 + b = a + b + 1 by omega,zCa,zCa]
    split
    · rfl
    · rw [show a + b + x.kids.toNat = a + x.kids.toNat + b by omega,zFl r (a + x.kids.toNat) b]
      cases cns r (a + x.kids.toNat) with
      | none=>rfl
      | some j =>
        simp only [Option.bind_some,Option.map_some,List.drop_succ_cons,Option.map_map]
        congr 1
theorem zL0 (n : Nat) : ∀ (l : List Nd) (o : Nat) (a : Int),l.length ≤ n → zDn n l ((o : Int) + 1) a = match cns l (o + 1) with
    | some k=>a + k
    | none=>-1
  | [],o,a,_=>rfl
  | x :: r,o,a,hn=>by
    simp only [List.length_cons] at hn
    rw [zCa]
    unfold zDn
    by_cases h0 : x.kids < 0
    · rw [if_pos (.inl h0),if_pos h0]
    · rw [if_neg h0]
      by_cases h1 : x.kids > n
      · rw [if_pos (.inr h1)]
        cases hc : cns r (o + x.kids.toNat) with
        | none=>rfl
        | some j=>have:=zG4 hc;have:=zL6 hc;omega
      · rw [if_neg (by omega)]
        by_cases h2 : (o : Int) + 1 + (x.kids - 1) > 0
        · rw [if_pos h2]
          obtain ⟨q,hq⟩ : ∃ q : Nat,o + x.kids.toNat = q + 1:=⟨o + x.kids.toNat - 1,by omega⟩
          rw [hq,show (o : Int) + 1 + (x.kids - 1) = (q : Int) + 1 by omega,zL0 n r q (a + 1) (by omega)]
          cases cns r (q + 1) with
          | none=>rfl
          | some k=>show a + 1 + (k : Int) = a + ((k + 1 : Nat) : Int);omega
        · rw [if_neg h2,show o + x.kids.toNat = 0 by omega,zD4];simp
theorem zN9 (L : List Nd) (a : Nat) : endF L (a : Int) = match cns (L.drop a) 1 with
    | some k=>(a : Int) + k
    | none=>-1:=by
  rw [endF,if_neg (by omega),Int.toNat_natCast]
  have:=zL0 L.length (L.drop a) 0 a (by rw [List.length_drop];omega)
  simpa using this
theorem zDj (L : List Nd) : zCH L = true ↔ cns L 1 = some L.length:=by
  have h:=zN9 L 0
  simp only [List.drop_zero] at h
  rw [zCH,show (0 : Int) = ((0 : Nat) : Int) from rfl,h]
  cases hc : cns L 1 with
  | none=>simp
  | some k =>
    have:=zG4 hc
    have:=zL6 hc
    simp;omega
theorem zKg {L : List Nd} {n k : Nat} (h : cns (L.drop n) 1 = some k) : endF L (n : Int) = n + k:=by rw [zN9,h]
def zIH : Int → List (List Nd) → List Int
  | _,[]=>[]
  | b,K :: KK=>b :: zIH (b + K.length) KK
theorem zK6 : ∀ (j : Nat) {l : List Nd} {k : Nat},cns l j = some k → ∃ KK : List (List Nd),KK.length = j ∧ KK.flatten = l.take k ∧ ∀ K ∈ KK,cns K 1 = some K.length
  | 0,l,k,h=>by rw [zD4] at h;injection h with h;subst h;exact ⟨[],rfl,by simp,by simp⟩
  | j + 1,l,k,h=>by
    rw [show j + 1 = 1 + j by omega,zFl] at h
    cases h1 : cns l 1 with
    | none=>rw [h1] at h;cases h
    | some k1 =>
      rw [h1] at h;simp only [Option.bind_some] at h
      cases h2 : cns (l.drop k1) j with
      | none=>rw [h2] at h;cases h
      | some k2 =>
        rw [h2] at h;simp only [Option.map_some,Option.some.injEq] at h;subst h
        obtain ⟨KK,e1,e2,e3⟩:=zK6 j h2
        have hl:=zL6 h1
        refine ⟨l.take k1 :: KK,by simp [e1],?_,?_⟩
        · rw [List.flatten_cons,e2,Nat.add_comm k2 k1,List.take_add]
        · intro K hK
          rcases List.mem_cons.1 hK with rfl | hK
          · rw [zOE h1,List.length_take];congr 1;omega
          · exact e3 K hK
theorem zJZ : ∀ (KK : List (List Nd)),(∀ K ∈ KK,cns K 1 = some K.length) → cns KK.flatten KK.length = some KK.flatten.length
  | [],_=>by rw [List.length_nil,zD4];rfl
  | K :: KK,h=>by
    have h1:=h K (by simp)
    have h2:=zJZ KK (fun K' hK=>h K' (by simp [hK]))
    rw [List.length_cons,Nat.add_comm,zFl,List.flatten_cons,zCN _ h1]
    simp only [Option.bind_some,List.drop_left,h2,Option.map_some,List.length_append,Option.some.injEq];omega
theorem zPr {L : List Nd} {n : Nat} {KK : List (List Nd)} {R : List Nd} (hd : L.drop n = KK.flatten ++ R) (hw : ∀ K ∈ KK,cns K 1 = some K.length) : ∀ i,i ≤ KK.length → seqE L (n : Int) i = (n : Int) + ((KK.take i).flatten.length : Nat)
  | 0,_=>by simp [seqE]
  | i + 1,hi=>by
    have ih:=zPr hd hw i (by omega)
    rw [zII (by omega),ih]
    have hK : KK[i]? = some KK[i]:=List.getElem?_eq_getElem (by omega)
    have h1:=hw KK[i] (List.getElem_mem _)
    have hdr : L.drop (n + (KK.take i).flatten.length) = KK[i] ++ ((KK.drop (i + 1)).flatten ++ R):=by
      rw [← List.drop_drop,hd]
      conv=>lhs;rw [← List.take_append_drop i KK,List.flatten_append,List.append_assoc]
      rw [List.drop_append_of_le_length (by simp),List.drop_of_length_le (by simp),List.nil_append,List.drop_eq_getElem_cons (by omega),List.flatten_cons,List.append_assoc]
    have h2:=zKg (L:=L) (n:=n + (KK.take i).flatten.length) (by rw [hdr];exact zCN _ h1)
    rw [show (n : Int) + ((KK.take i).flatten.length : Nat) = ((n + (KK.take i).flatten.length : Nat) : Int) by omega,h2]
    have h9 : (KK.take (i + 1)).flatten.length = (KK.take i).flatten.length + KK[i].length:=by
      rw [List.take_add_one,hK,List.flatten_append,List.length_append];simp
    omega
theorem zGd : ∀ (KK : List (List Nd)) (b : Int),zIH b KK = (List.range KK.length).map (fun i=>b + ((KK.take i).flatten.length : Nat))
  | [],b=>rfl
  | K :: KK,b=>by
    rw [List.length_cons,List.range_succ_eq_map,List.map_cons,List.map_map,zIH,zGd KK]
    simp [Function.comp_def]
    intro i _;omega
theorem zQT {L : List Nd} {n : Nat} {KK : List (List Nd)} {R : List Nd} (hd : L.drop n = KK.flatten ++ R) (hw : ∀ K ∈ KK,cns K 1 = some K.length) {i : Nat} {K : List Nd} (hK : KK[i]? = some K) : endF L ((n : Int) + ((KK.take i).flatten.length : Nat)) = (n : Int) + ((KK.take i).flatten.length : Nat) + (K.length : Nat) ∧ L.drop (n + (KK.take i).flatten.length) = K ++ ((KK.drop (i + 1)).flatten ++ R):=by
  obtain ⟨hi,rfl⟩:=List.getElem?_eq_some_iff.1 hK
  have h1:=hw KK[i] (List.getElem_mem _)
  have hdr : L.drop (n + (KK.take i).flatten.length) = KK[i] ++ ((KK.drop (i + 1)).flatten ++ R):=by
    rw [← List.drop_drop,hd]
    conv=>lhs;rw [← List.take_append_drop i KK,List.flatten_append,List.append_assoc]
    rw [List.drop_append_of_le_length (by simp),List.drop_of_length_le (by simp),List.nil_append,List.drop_eq_getElem_cons (by omega),List.flatten_cons,List.append_assoc]
  have h2 : cns (L.drop (n + (KK.take i).flatten.length)) 1 = some KK[i].length:=by rw [hdr];exact zCN _ h1
  have h4:=zKg h2
  rw [show (n : Int) + ((KK.take i).flatten.length : Nat) = ((n + (KK.take i).flatten.length : Nat) : Int) by omega]
  exact ⟨h4,hdr⟩
structure Node (L : List Nd) (n : Nat) (x : Nd) (KK : List (List Nd)) (R : List Nd) : Prop where
  drop : L.drop n = x :: (KK.flatten ++ R)
  kids : x.kids = KK.length
  whole : ∀ K ∈ KK,cns K 1 = some K.length
theorem Node.cnsEq {L : List Nd} {n : Nat} {x : Nd} {KK : List (List Nd)} {R : List Nd} (h : Node L n x KK R) : cns (L.drop n) 1 = some (KK.flatten.length + 1):=by
  rw [h.drop,zCa,if_neg (by have:=h.kids;omega),show 0 + x.kids.toNat = KK.length by have:=h.kids;omega,zCN _ (zJZ KK h.whole)];rfl
theorem Node.at {L : List Nd} {n : Nat} {x : Nd} {KK : List (List Nd)} {R : List Nd} (h : Node L n x KK R) : L[n]? = some x:=by
  have:=congrArg (·[0]?) h.drop
  simpa using this
theorem Node.next {L : List Nd} {n : Nat} {x : Nd} {KK : List (List Nd)} {R : List Nd} (h : Node L n x KK R) : L.drop (n + 1) = KK.flatten ++ R:=by
  rw [← List.drop_drop,h.drop];rfl
theorem Node.kidsEq {L : List Nd} {n : Nat} {x : Nd} {KK : List (List Nd)} {R : List Nd} (h : Node L n x KK R) : zBn L (n : Int) = zIH ((n : Int) + 1) KK:=by
  have h1:=zKg h.cnsEq
  rw [zBn,if_neg (by omega),zGd,show zKG L (n : Int) = KK.length by rw [zKG,Int.toNat_natCast,h.at];have:=h.kids;simp only;omega]
  refine List.map_congr_left fun i hi=>?_
  rw [List.mem_range] at hi
  have:=zPr h.next h.whole i (by omega)
  rw [show ((n + 1 : Nat) : Int) = (n : Int) + 1 by omega] at this
  exact this
theorem zQF {L : List Nd} {n k : Nat} (h : cns (L.drop n) 1 = some k) : ∃ x KK R,Node L n x KK R ∧ k = KK.flatten.length + 1:=by
  cases hl : L.drop n with
  | nil=>rw [hl] at h;cases h
  | cons x r =>
    rw [hl,zCa] at h
    split at h
    · cases h
    · rename_i h0
      cases hc : cns r (0 + x.kids.toNat) with
      | none=>rw [hc] at h;cases h
      | some j =>
        rw [hc] at h;simp at h;subst h
        obtain ⟨KK,e1,e2,e3⟩:=zK6 _ hc
        have:=zL6 hc
        refine ⟨x,KK,r.drop j,⟨by rw [e2,List.take_append_drop,hl],by rw [e1];omega,e3⟩,?_⟩
        rw [e2,List.length_take];omega
theorem zJI : ∀ (KK : List (List Nd)) (b : Int),(zIH b KK).length = KK.length
  | [],_=>rfl
  | _ :: KK,b=>by rw [zIH,List.length_cons,zJI KK,List.length_cons]
theorem zOe {KK : List (List Nd)} {b : Int} {i : Nat} (hi : i < KK.length) : (zIH b KK)[i]? = some (b + ((KK.take i).flatten.length : Nat)):=by
  rw [zGd,List.getElem?_map,List.getElem?_range hi];rfl
end Go.Proofs.YtblomnkamngnbaaGreatDoor
namespace Go.Proofs.YtblomnkamngnbaaGreatDoor
inductive Tr where
  | mk (n : Nd) (ks : List Tr)
def Tr.hd : Tr → Nd
  | .mk n _=>n
def Tr.ks : Tr → List Tr
  | .mk _ ks=>ks
mutual
def Tr.fl : Tr → List Nd
  | .mk n ks=>n :: flL ks
def flL : List Tr → List Nd
  | []=>[]
  | t :: r=>t.fl ++ flL r
end
mutual
def Tr.wf : Tr → Prop
  | .mk n ks=>n.kids = ks.length ∧ wfL ks
def wfL : List Tr → Prop
  | []=>True
  | t :: r=>t.wf ∧ wfL r
end
mutual
def Tr.sz : Tr → Nat
  | .mk _ ks=>szL ks + 1
def szL : List Tr → Nat
  | []=>0
  | t :: r=>t.sz + szL r
end
mutual
theorem Tr.fl_len : ∀ t : Tr,t.fl.length = t.sz
  | .mk _ ks=>by rw [Tr.fl,Tr.sz,List.length_cons,zMu ks]
theorem zMu : ∀ ks : List Tr,(flL ks).length = szL ks
  | []=>rfl
  | t :: r=>by rw [flL,szL,List.length_append,Tr.fl_len t,zMu r]
end
theorem Tr.ind {P : Tr → Prop} (h : ∀ n ks,(∀ k ∈ ks,P k) → P (.mk n ks)) : ∀ t,P t
  | .mk n ks=>h n ks (go ks)
where go : ∀ ks : List Tr,∀ k ∈ ks,P k
  | [],_,hk=>by cases hk
  | t :: r,k,hk=>by
    rcases List.mem_cons.1 hk with e | e
    · rw [e];exact Tr.ind h t
    · exact go r k e
theorem zCK : ∀ {ks : List Tr},wfL ks ↔ ∀ k ∈ ks,k.wf
  | []=>by simp [wfL]
  | t :: r=>by simp [wfL,zCK (ks:=r)]
theorem zEV : ∀ (ks : List Tr),flL ks = (ks.map Tr.fl).flatten
  | []=>rfl
  | t :: r=>by rw [flL,List.map_cons,List.flatten_cons,zEV r]
theorem zBO (t : Tr) : 0 < t.sz:=by cases t;rw [Tr.sz];omega
theorem zCw : ∀ {ks : List Tr} {k : Tr},k ∈ ks → k.sz ≤ szL ks
  | t :: r,k,h=>by
    rw [szL]
    rcases List.mem_cons.1 h with e | e
    · rw [e];omega
    · have:=zCw e;omega
mutual
theorem Tr.wf_cns : ∀ {t : Tr},t.wf → cns t.fl 1 = some t.fl.length
  | .mk n ks,h=>by
    rw [Tr.wf] at h
    rw [Tr.fl,zCa,if_neg (by omega),show 0 + n.kids.toNat = ks.length by omega,zPY h.2];rfl
theorem zPY : ∀ {ks : List Tr},wfL ks → cns (flL ks) ks.length = some (flL ks).length
  | [],_=>rfl
  | t :: r,h=>by
    rw [wfL] at h
    rw [flL,List.length_cons,show r.length + 1 = 1 + r.length by omega,zFl,zCN _ (Tr.wf_cns h.1),Option.bind_some,List.drop_left,zPY h.2,Option.map_some,List.length_append]
    congr 1;omega
end
theorem zPe : ∀ (m : Nat) {L : List Nd},L.length ≤ m → cns L 1 = some L.length → ∃ t : Tr,t.fl = L ∧ t.wf
  | 0,L,hm,h=>by have:=zG4 h;omega
  | m + 1,L,hm,h=>by
    obtain ⟨x,KK,R,hN,hl⟩:=zQF (L:=L) (n:=0) (by simpa using h)
    have hd:=hN.drop
    rw [List.drop_zero] at hd
    have hR : R = []:=by
      have:=congrArg List.length hd
      simp only [List.length_cons,List.length_append] at this
      exact List.eq_nil_of_length_eq_zero (by omega)
    subst hR
    rw [List.append_nil] at hd
    have hlen : KK.flatten.length ≤ m:=by rw [hd,List.length_cons] at hm;omega
    have key : ∀ (KK : List (List Nd)),KK.flatten.length ≤ m → (∀ K ∈ KK,cns K 1 = some K.length) → ∃ ks : List Tr,flL ks = KK.flatten ∧ wfL ks ∧ ks.length = KK.length:=by
      intro KK
      induction KK with
      | nil=>exact fun _ _=>⟨[],rfl,trivial,rfl⟩
      | cons K KK ih =>
        intro hl hw
        rw [List.flatten_cons,List.length_append] at hl
        obtain ⟨t,e1,w1⟩:=zPe m (L:=K) (by omega) (hw K List.mem_cons_self)
        obtain ⟨ks,e2,w2,l2⟩:=ih (by omega) fun K' h'=>hw K' (List.mem_cons_of_mem _ h')
        exact ⟨t :: ks,by rw [flL,e1,e2,List.flatten_cons],⟨w1,w2⟩,by rw [List.length_cons,List.length_cons,l2]⟩
    obtain ⟨ks,e,w,l⟩:=key KK hlen hN.whole
    exact ⟨.mk x ks,by rw [Tr.fl,e,hd],by rw [Tr.wf];exact ⟨by rw [hN.kids,l],w⟩⟩
theorem zD8 {L : List Nd} : zCH L = true ↔ ∃ t : Tr,t.fl = L ∧ t.wf:=by
  rw [zDj]
  constructor
  · exact zPe L.length (Nat.le_refl _)
  · rintro ⟨t,rfl,h⟩;exact Tr.wf_cns h
structure At (L : List Nd) (n : Nat) (t : Tr) : Prop where
  pre : ∃ R,L.drop n = t.fl ++ R
  wf : t.wf
theorem At.top {t : Tr} (h : t.wf) : At t.fl 0 t:=⟨⟨[],by simp⟩,h⟩
theorem At.node {L : List Nd} {n : Nat} {x : Nd} {ks : List Tr} (h : At L n (.mk x ks)) : ∃ R,Node L n x (ks.map Tr.fl) R:=by
  obtain ⟨R,hd⟩:=h.pre
  have hw:=h.wf
  rw [Tr.wf] at hw
  refine ⟨R,by rw [hd,Tr.fl,zEV];rfl,by rw [List.length_map];exact hw.1,fun K hK=>?_⟩
  obtain ⟨k,hk,rfl⟩:=List.mem_map.1 hK
  exact Tr.wf_cns (zCK.1 hw.2 k hk)
theorem At.here {L : List Nd} {n : Nat} {x : Nd} {ks : List Tr} (h : At L n (.mk x ks)) : L[n]? = some x:=by
  obtain ⟨R,hN⟩:=h.node;exact hN.at
theorem At.hd {L : List Nd} {n : Nat} {t : Tr} (h : At L n t) : L[n]? = some t.hd:=by cases t;exact h.here
theorem At.len {L : List Nd} {n : Nat} {t : Tr} (h : At L n t) : n + t.sz ≤ L.length:=by
  obtain ⟨R,hd⟩:=h.pre
  have:=congrArg List.length hd
  rw [List.length_drop,List.length_append,Tr.fl_len] at this
  have:=zBO t;omega
def kidAt (n : Nat) (ks : List Tr) (i : Nat) : Nat:=n + 1 + szL (ks.take i)
theorem zHH : ∀ (a b : List Tr),szL (a ++ b) = szL a + szL b
  | [],b=>by rw [List.nil_append,szL];omega
  | t :: a,b=>by rw [List.cons_append,szL,szL,zHH a b];omega
theorem zDA {n : Nat} {ks : List Tr} {i : Nat} {k : Tr} (h : ks[i]? = some k) : kidAt n ks (i + 1) = kidAt n ks i + k.sz:=by
  unfold kidAt
  rw [List.take_add_one,h,zHH,Option.toList_some,szL,szL];omega
theorem zCM (n : Nat) (ks : List Tr) : kidAt n ks 0 = n + 1:=by simp [kidAt,szL]
theorem zIb (n : Nat) (ks : List Tr) : kidAt n ks ks.length = n + 1 + szL ks:=by rw [kidAt,List.take_length]
theorem zQs : ∀ (ks : List Tr),(ks.map Tr.fl).flatten.length = szL ks
  | ks=>by rw [← zEV,zMu]
theorem At.kid {L : List Nd} {n : Nat} {x : Nd} {ks : List Tr} (h : At L n (.mk x ks)) {i : Nat} {k : Tr} (hk : ks[i]? = some k) : At L (kidAt n ks i) k:=by
  obtain ⟨R,hN⟩:=h.node
  have hw:=h.wf
  rw [Tr.wf] at hw
  have h1:=(zQT hN.next hN.whole (i:=i) (K:=k.fl) (by rw [List.getElem?_map,hk];rfl)).2
  rw [← List.map_take,zQs] at h1
  exact ⟨⟨_,h1⟩,zCK.1 hw.2 k (List.mem_of_getElem? hk)⟩
theorem At.endF {L : List Nd} {n : Nat} {t : Tr} (h : At L n t) : endF L (n : Int) = ((n + t.sz : Nat) : Int):=by
  obtain ⟨R,hd⟩:=h.pre
  rw [zKg (k:=t.fl.length) (by rw [hd];exact zCN _ (Tr.wf_cns h.wf)),Tr.fl_len];omega
theorem At.kids {L : List Nd} {n : Nat} {x : Nd} {ks : List Tr} (h : At L n (.mk x ks)) : zBn L (n : Int) = (List.range ks.length).map fun i=>((kidAt n ks i : Nat) : Int):=by
  obtain ⟨R,hN⟩:=h.node
  rw [hN.kidsEq,zGd,List.length_map]
  refine List.map_congr_left fun i _=>?_
  rw [← List.map_take,zQs,kidAt];omega
theorem At.kids_get {L : List Nd} {n : Nat} {x : Nd} {ks : List Tr} (h : At L n (.mk x ks)) {i : Nat} (hi : i < ks.length) : (zBn L (n : Int))[i]? = some ((kidAt n ks i : Nat) : Int):=by
  rw [h.kids,List.getElem?_map,List.getElem?_range hi];rfl
theorem At.kids_len {L : List Nd} {n : Nat} {x : Nd} {ks : List Tr} (h : At L n (.mk x ks)) : (zBn L (n : Int)).length = ks.length:=by
  rw [h.kids,List.length_map,List.length_range]
theorem At.kidn {L : List Nd} {n : Nat} {x : Nd} {ks : List Tr} (h : At L n (.mk x ks)) : x.kids = ks.length:=by
  have:=h.wf;rw [Tr.wf] at this;exact this.1
theorem At.sub {L : List Nd} {n : Nat} {t : Tr} (h : At L n t) : subF L (n : Int) = t.fl:=by
  obtain ⟨R,hd⟩:=h.pre
  rw [subF,h.endF,if_neg (by omega),Int.toNat_natCast,Int.toNat_natCast,List.drop_take,hd,show n + t.sz - n = t.fl.length by rw [Tr.fl_len];omega,List.take_left]
end Go.Proofs.YtblomnkamngnbaaGreatDoor
