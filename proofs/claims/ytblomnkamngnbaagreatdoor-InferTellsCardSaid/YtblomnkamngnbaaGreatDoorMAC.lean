/- Texts of this claim, merged: NodB. -/
import Derived.Test.YtblomnkamngnbaaGreatDoorMAF
namespace Go.Proofs.YtblomnkamngnbaaGreatDoor
open Go.Sx
attribute [local irreducible] Ylds zBA alex zBe zBP awp zAj zBZ zBk zA2 zBH zBR zA8 zBV zBb zBf
theorem zIT : zAT Tryz.prog 44 = true:=by kernel_rfl
def zCA (L : List Nd) : Bool:=decide (L.length > 0) && decide (endF L 0 = L.length)
theorem zHu (L : List Nd) (hL : L.length ≤ 2000000) : zAj Tryz.prog 49 [zAc L] (bl (zCA L)):=by
  refine zAd Tryz.func49 rfl Tryz.ntmps49 Tryz.results49 rfl ?_
  intro wb St0
  repeat' first | apply en_n|apply zAH|apply zAB|apply zAF|apply w0|(apply zAV (hb:=zFs) (hc:=zFx L _ hL))|apply ay (hd:=rfl)|exact zAE rfl|exact zAC rfl|(apply zAl;exact rfl;(with_reducible exact zA0))|exact zEp rfl rfl|exact zC6 rfl rfl|exact zAi rfl rfl|exact zAh rfl rfl|(apply w1;exact rfl;exact rfl)|(apply k1 (hd:=rfl);exact rfl;exact rfl)|(apply gD;exact rfl;exact rfl;(intro hb);rotate_left;(intro hb);rotate_right)|apply zAM|apply zAJ|(apply res1;exact rfl)|exact zAG|refine zAX rfl ?_
  · have h : 0 < L.length:=by omega
    simp [zCA,h]
  · have h : ¬ 0 < L.length:=by omega
    simp [zCA,h]
theorem zLW {n : Nat} : ∀ (r : List Nd) (o a : Int),0 ≤ a → zEH n r o a = -1 ∨ a < zEH n r o a ∧ zEH n r o a ≤ a + r.length
  | [],_,_,_=>.inl rfl
  | x :: r,o,a,ha=>by
    unfold zEH
    split
    · exact .inl rfl
    · split
      · rcases zLW r (o + (x.kids - 1)) (a + 1) (by omega) with h | h
        · exact .inl h
        · refine .inr ⟨by omega,?_⟩;simp only [List.length_cons];omega
      · refine .inr ⟨by omega,?_⟩;simp only [List.length_cons];omega
theorem zE0 (L : List Nd) (a : Int) : endF L a = -1 ∨ (0 ≤ a ∧ a < endF L a ∧ endF L a ≤ L.length):=by
  unfold endF
  split
  · exact .inl rfl
  · rcases zLW (n:=L.length) (L.drop a.toNat) 1 a (by omega) with h | h
    · exact .inl h
    · refine .inr ⟨by omega,h.1,?_⟩
      have h2:=h.2
      rw [List.length_drop] at h2
      rcases Nat.lt_or_ge a.toNat L.length with h3 | h3
      · omega
      · have h4:=h.1
        rw [List.drop_of_length_le h3] at h4
        simp only [zEH] at h4;omega
theorem zQD (L : List Nd) : ∀ (m k : Nat) (p q : Int),L.length - k ≤ m → 1 ≤ p → 1 ≤ q → zEH L.length (L.drop k) (p + q) k = if zEH L.length (L.drop k) p k < 0 then -1 else zEH L.length (L.drop (zEH L.length (L.drop k) p k).toNat) q (zEH L.length (L.drop k) p k):=by
  intro m
  induction m with
  | zero =>
    intro k p q hm _ _
    rw [zEl (by omega),zEl (by omega)];rfl
  | succ m ih =>
    intro k p q hm hp hq
    rcases Nat.lt_or_ge k L.length with hk | hk
    · have hv : L[k]? = some L[k]:=List.getElem?_eq_getElem hk
      rw [zDW hv,zDW hv]
      by_cases hbad : L[k].kids < 0 ∨ L[k].kids > L.length
      · rw [if_pos hbad,if_pos hbad];rfl
      · rw [if_neg hbad,if_neg hbad]
        rw [if_pos (show p + q + (L[k].kids - 1) > 0 by omega)]
        by_cases h1 : p + (L[k].kids - 1) > 0
        · rw [if_pos h1]
          have:=ih (k + 1) (p + (L[k].kids - 1)) q (by omega) (by omega) hq
          rw [show p + q + (L[k].kids - 1) = p + (L[k].kids - 1) + q by omega]
          exact this
        · rw [if_neg h1,if_neg (by omega)]
          rw [show p + q + (L[k].kids - 1) = q by omega]
          rfl
    · rw [zEl hk,zEl hk];rfl
def seqE (L : List Nd) (a : Int) : Nat → Int
  | 0=>a
  | i + 1=>if seqE L a i < 0 then -1 else endF L (seqE L a i)
theorem zO4 (L : List Nd) (k : Nat) : ∀ (i : Nat),seqE L k (i + 1) = zEH L.length (L.drop k) (i + 1) k
  | 0=>by
    have h0 : ¬ seqE L (k : Int) 0 < 0:=by simp only [seqE];omega
    have h1 : ¬ (k : Int) < 0:=by omega
    unfold seqE
    rw [if_neg h0]
    show endF L (k : Int) = _
    rw [endF,if_neg h1,Int.toNat_natCast];rfl
  | i + 1=>by
    have ih:=zO4 L k i
    show (if seqE L k (i + 1) < 0 then _ else _) = _
    rw [ih,show ((i + 1 : Nat) : Int) + 1 = (i : Int) + 1 + 1 by omega,zQD L _ k ((i : Int) + 1) 1 (Nat.le_refl _) (by omega) (by omega)]
    split
    · rfl
    · rename_i h;rw [endF,if_neg h]
theorem zHp {L : List Nd} {k : Nat} {x : Nd} (h : L[k]? = some x) : endF L k = if x.kids < 0 ∨ x.kids > L.length then -1 else seqE L ((k : Int) + 1) x.kids.toNat:=by
  rw [endF,if_neg (by omega),Int.toNat_natCast,zDW h]
  split
  · rfl
  · rename_i hb
    by_cases h1 : 1 + (x.kids - 1) > 0
    · rw [if_pos h1]
      obtain ⟨i,hi⟩ : ∃ i : Nat,x.kids.toNat = i + 1:=⟨x.kids.toNat - 1,by omega⟩
      rw [hi]
      have:=zO4 L (k + 1) i
      rw [show ((k + 1 : Nat) : Int) = (k : Int) + 1 by omega] at this
      rw [this]
      congr 1
      omega
    · rw [if_neg h1]
      have : x.kids.toNat = 0:=by omega
      rw [this];rfl
theorem zGI {L : List Nd} {a : Int} {i : Nat} (h : seqE L a i < 0) : ∀ j,i ≤ j → seqE L a j < 0:=by
  intro j hj
  induction j with
  | zero=>rw [show i = 0 by omega] at h;exact h
  | succ j ih =>
    rcases Nat.lt_or_ge j i with h1 | h1
    · rw [show j + 1 = i by omega];exact h
    · show (if seqE L a j < 0 then _ else _) < 0
      rw [if_pos (ih h1)];omega
theorem zD5 {L : List Nd} {a : Int} {i : Nat} (h : 0 ≤ seqE L a i) : seqE L a (i + 1) = endF L (seqE L a i):=by
  show (if seqE L a i < 0 then _ else _) = _
  rw [if_neg (by omega)]
theorem zH5 {L : List Nd} {a : Int} : ∀ {i : Nat},0 ≤ seqE L a i → a + i ≤ seqE L a i
  | 0,_=>by simp only [seqE];omega
  | i + 1,h=>by
    rcases Int.lt_or_le (seqE L a i) 0 with h1 | h1
    · have:=zGI h1 (i + 1) (by omega);omega
    · have:=zH5 h1
      rw [zD5 h1] at h ⊢
      rcases zE0 L (seqE L a i) with h2 | h2 <;> omega
theorem zO3 {L : List Nd} {a : Int} (ha : 0 ≤ a) : ∀ {i : Nat},seqE L a i < 0 → seqE L a i = -1
  | 0,h=>by change a < 0 at h;omega
  | i + 1,h=>by
    change (if seqE L a i < 0 then _ else _) < 0 at h
    show (if seqE L a i < 0 then _ else _) = _
    split
    · rfl
    · rename_i h1;rw [if_neg h1] at h;rcases zE0 L (seqE L a i) with h2 | h2 <;> omega
theorem zHq {L : List Nd} {a : Int} (h : a < 0 ∨ (L.length : Int) ≤ a) : endF L a = -1:=by
  rcases zE0 L a with h1 | h1 <;> omega
theorem zTC (L : List Nd) (hL : L.length ≤ 2000000) : ∀ (m : Nat) (at_ : Int),(L.length : Int) - at_ ≤ m → zAj Tryz.prog 44 [zAc L,i64 at_] (i64 (endF L at_)):=by
  intro m
  induction m with
  | zero =>
    intro at_ hm
    refine zAd Tryz.func44 rfl Tryz.ntmps44 Tryz.results44 rfl ?_
    intro wb St0
    repeat' first | apply en_n|apply zAH|apply zAB|apply zAF|apply w0|(apply aJ (hd:=rfl);(first|exact zAk rfl|exact Co_bb rfl rfl rfl|exact Co_nn rfl);exact rfl;(with_reducible exact zAW);assumption;omega;exact fun _=>rfl)|(apply aI (hd:=rfl);(first|exact zAk rfl|exact Co_bb rfl rfl rfl|exact Co_nn rfl);exact rfl;(with_reducible exact zAW);exact fun _=>rfl;rotate_left;intro v hv;rotate_right)|apply ay (hd:=rfl)|exact zAE rfl|exact zAC rfl|(apply zAy;exact rfl;(with_reducible exact fn_3))|(apply zAg;exact rfl;(with_reducible exact zAs))|(apply zAl;exact rfl;(with_reducible exact zA0))|exact zCT rfl rfl|exact zEp rfl rfl|exact zEU rfl rfl|(apply zBC;exact rfl;exact rfl)|exact zAi rfl rfl|exact zAh rfl rfl|(apply w1;exact rfl;exact rfl)|(apply k0 (hd:=rfl);exact rfl;exact rfl)|(apply gD;exact rfl;exact rfl;(intro hb);rotate_left;(intro hb);rotate_right)|(apply zAz;exact rfl;(intro hb);rotate_left;(intro hb);rotate_right)|(apply zAK;exact rfl)|apply zAI|apply zAP|apply zAM|apply en_r|apply zAJ|(apply res1;exact rfl)
    all_goals try omega
    all_goals rw [zHq (by omega)]
  | succ m ih =>
    intro at_ hm
    refine zAd Tryz.func44 rfl Tryz.ntmps44 Tryz.results44 rfl ?_
    intro wb St0
    repeat' first | apply en_n|apply zAH|apply zAB|apply zAF|apply w0|(apply aJ (hd:=rfl);(first|exact zAk rfl|exact Co_bb rfl rfl rfl|exact Co_nn rfl);exact rfl;(with_reducible exact zAW);assumption;omega;exact fun _=>rfl)|(apply aI (hd:=rfl);(first|exact zAk rfl|exact Co_bb rfl rfl rfl|exact Co_nn rfl);exact rfl;(with_reducible exact zAW);exact fun _=>rfl;rotate_left;intro v hv;rotate_right)|apply ay (hd:=rfl)|exact zAE rfl|exact zAC rfl|(apply zAy;exact rfl;(with_reducible exact fn_3))|(apply zAg;exact rfl;(with_reducible exact zAs))|(apply zAl;exact rfl;(with_reducible exact zA0))|exact zCT rfl rfl|exact zEp rfl rfl|exact zEU rfl rfl|(apply zBC;exact rfl;exact rfl)|exact zAi rfl rfl|exact zAh rfl rfl|(apply w1;exact rfl;exact rfl)|(apply k0 (hd:=rfl);exact rfl;exact rfl)|(apply gD;exact rfl;exact rfl;(intro hb);rotate_left;(intro hb);rotate_right)|(apply zAz;exact rfl;(intro hb);rotate_left;(intro hb);rotate_right)|(apply zAK;exact rfl)|apply zAI|apply zAP|apply zAM|apply en_r|apply zAJ|(apply res1;exact rfl)
    all_goals try omega
    · rw [zHq (by omega)]
    · rw [zHq (by omega)]
    · obtain ⟨k,rfl⟩:=Int.eq_ofNat_of_zero_le (show 0 ≤ at_ by omega)
      rw [zHp (k:=k) hv,if_pos (by omega)]
    · obtain ⟨k,rfl⟩:=Int.eq_ofNat_of_zero_le (show 0 ≤ at_ by omega)
      rw [zHp (k:=k) hv,if_pos (by omega)]
    · obtain ⟨k,rfl⟩:=Int.eq_ofNat_of_zero_le (show 0 ≤ at_ by omega)
      have he:=zHp (k:=k) hv
      rw [if_neg (by omega)] at he
      refine zAr (α:=Nat) (fun i=>i ≤ v.kids.toNat ∧ 0 ≤ seqE L ((k : Int) + 1) i) (fun i=>[(0,.d (zAc L)),(1,.d (i64 (k : Int))),(5,.d (i64 (seqE L ((k : Int) + 1) i))),(6,.d (i64 (i : Int)))]) (fun _=>[]) (fun i=>v.kids.toNat - i) 0 ⟨Nat.zero_le _,by simp only [seqE];omega⟩
        (zAO (zAA rfl (zAA rfl (zAA rfl (zAA rfl zAa)))) zAN rfl rfl) ?_
      rintro i ⟨hi1,hi2⟩
      have hg:=zH5 hi2
      repeat' first | apply en_n|apply zAH|apply zAB|apply zAF|apply w0|(apply zAV (hb:=zIT) (hc:=ih _ _))|(apply aJ (hd:=rfl);(first|exact zAk rfl|exact Co_bb rfl rfl rfl|exact Co_nn rfl);exact rfl;(with_reducible exact zAW);assumption;omega;exact fun _=>rfl)|apply ay (hd:=rfl)|exact zAE rfl|exact zAC rfl|(apply zAy;exact rfl;(with_reducible exact fn_3))|(apply zAg;exact rfl;(with_reducible exact zAs))|exact zCT rfl rfl|(apply zBC;exact rfl;exact rfl)|(apply zAz;exact rfl;(intro hb);rotate_left;(intro hb);rotate_right)|apply zAI|apply zAP|apply zAM|apply zAt|apply en_r|apply en_e|apply eb_n|apply eb_r|apply eb_e|apply zAJ|(apply res1;exact rfl)|exact zAG|refine zAX rfl ?_
      · omega
      · have h1:=zD5 hi2
        have h2:=zO3 (a:=(k : Int) + 1) (by omega) (zGI (j:=v.kids.toNat) (show seqE L ((k : Int) + 1) (i + 1) < 0 by omega) (by omega))
        rw [he,h2]
      · omega
      · refine ⟨i + 1,⟨by omega,by rw [zD5 hi2];omega⟩,by omega,zAO (zAA rfl (zAA rfl (Le_d rfl ?_ (zAA rfl zAa)))) zAN rfl rfl⟩
        rw [zD5 hi2]
      · rw [he,show i = v.kids.toNat by omega]
theorem rEnd (L : List Nd) (at_ : Int) (hL : L.length ≤ 2000000) : zAj Tryz.prog 44 [zAc L,i64 at_] (i64 (endF L at_)):=zTC L hL ((L.length : Int) - at_).toNat at_ (by omega)
theorem zH7 (L : List Nd) (hL : L.length ≤ 2000000) : zAj Tryz.prog 23 [zAc L] (bl (zCA L)):=by
  refine zAd Tryz.func23 rfl Tryz.ntmps23 Tryz.results23 rfl ?_
  intro wb St0
  repeat' first | apply en_n|apply zAH|apply zAB|apply zAF|apply w0|(apply zAV (hb:=zIT) (hc:=rEnd L _ hL))|apply ay (hd:=rfl)|exact zAE rfl|exact zAC rfl|(apply zAl;exact rfl;(with_reducible exact zA0))|exact zEp rfl rfl|exact zC6 rfl rfl|exact zAi rfl rfl|exact zAh rfl rfl|(apply w1;exact rfl;exact rfl)|(apply k1 (hd:=rfl);exact rfl;exact rfl)|(apply gD;exact rfl;exact rfl;(intro hb);rotate_left;(intro hb);rotate_right)|apply zAM|apply zAJ|(apply res1;exact rfl)|exact zAG|refine zAX rfl ?_
  · have h : 0 < L.length:=by omega
    simp [zCA,h]
  · have h : ¬ 0 < L.length:=by omega
    simp [zCA,h]
def zOE (L : List Nd) (a : Int) : Nat:=match L[a.toNat]? with
  | some x=>x.kids.toNat
  | none=>0
def zBX (L : List Nd) (a : Int) : List Int:=if endF L a < 0 then [] else (List.range (zOE L a)).map (seqE L (a + 1))
theorem zK2 {L : List Nd} {a : Int} (h : ¬ endF L a < 0) : ∃ (k : Nat) (x : Nd),a = k ∧ L[k]? = some x ∧ 0 ≤ x.kids ∧ x.kids ≤ L.length ∧ endF L a = seqE L (a + 1) x.kids.toNat ∧ zOE L a = x.kids.toNat ∧ zBX L a = (List.range x.kids.toNat).map (seqE L (a + 1)):=by
  have hb:=zE0 L a
  obtain ⟨k,rfl⟩:=Int.eq_ofNat_of_zero_le (show 0 ≤ a by omega)
  have hk : k < L.length:=by omega
  have hv : L[k]? = some L[k]:=List.getElem?_eq_getElem hk
  have he:=zHp hv
  have hg : ¬ (L[k].kids < 0 ∨ L[k].kids > L.length):=fun h0=>by rw [if_pos h0] at he;omega
  rw [if_neg hg] at he
  have hkn : zOE L (k : Int) = L[k].kids.toNat:=by unfold zOE;rw [Int.toNat_natCast,hv]
  exact ⟨k,L[k],rfl,hv,by omega,by omega,he,hkn,by rw [zBX,if_neg h,hkn]⟩
theorem zK1 (f : Nat → Int) (i : Nat) : ((List.range i).map f).map ival ++ [i64 (f i)] = ((List.range (i + 1)).map f).map ival:=by
  rw [List.range_succ,List.map_append,List.map_append];rfl
theorem zCd (L : List Nd) (at_ : Int) (hL : L.length ≤ 2000000) : zAj Tryz.prog 54 [zAc L,i64 at_] (zBm (zBX L at_)):=by
  refine zAd Tryz.func54 rfl Tryz.ntmps54 Tryz.results54 rfl ?_
  intro wb St0
  repeat' first | apply en_n|apply zAH|apply zAB|apply zAF|apply w0|(apply zAV (hb:=zFs) (hc:=zFx L _ hL))|(apply aI (hd:=rfl);(first|exact zAk rfl|exact Co_bb rfl rfl rfl|exact Co_nn rfl);exact rfl;(with_reducible exact zAW);exact fun _=>rfl;rotate_left;intro v hv;rotate_right)|apply ay (hd:=rfl)|exact zAE rfl|exact zAC rfl|(apply zAy;exact rfl;(with_reducible exact fn_3))|(apply zAg;exact rfl;(with_reducible exact zAs))|exact zCT rfl rfl|(apply zBC;exact rfl;exact rfl)|exact zAb rfl|(apply zAz;exact rfl;(intro hb);rotate_left;(intro hb);rotate_right)|apply zAI|apply zAP|apply zAM|apply en_r|apply zAJ|(apply zRJ;exact rfl)|exact zAG|refine zAX rfl ?_
  · rw [zBX,if_pos hb];rfl
  · have:=zE0 L at_;omega
  · have:=zE0 L at_;omega
  · obtain ⟨k,x,hak,hx,h0,h1,he,hn,hf⟩:=zK2 hb
    subst hak
    obtain rfl : v = x:=by rw [Int.toNat_natCast] at hv;rw [hx] at hv;exact (Option.some.inj hv).symm
    refine zCI 5 false 3 1 rfl rfl ?_
    refine zAr (α:=Nat) (fun i=>i ≤ v.kids.toNat ∧ 0 ≤ seqE L ((k : Int) + 1) i) (fun i=>[(0,.d (zAc L)),(1,.d (i64 (seqE L ((k : Int) + 1) i))),(5,.buf 0 (((List.range i).map (seqE L ((k : Int) + 1))).map ival).length),(6,.d (i64 v.kids))])
      (fun i=>[.buf false 3 1 (((List.range i).map (seqE L ((k : Int) + 1))).map ival)]) (fun i=>v.kids.toNat - i) 0 ⟨Nat.zero_le _,by simp only [seqE];omega⟩
      (zAO (zAA rfl (zAA rfl (zBt rfl rfl (zAA rfl zAa)))) (zAD rfl rfl zAN) rfl rfl) ?_
    rintro i ⟨hi1,hi2⟩
    have hg:=zH5 hi2
    repeat' first | apply en_n|apply zAH|apply zAB|apply zAF|apply w0|(apply zAV (hb:=zFs) (hc:=zFx L _ hL))|(apply aApp (hd:=rfl) (hro:=rfl);exact rfl;exact rfl;(first|exact zAk rfl|exact Co_bb rfl rfl rfl|exact Co_nn rfl);(first|exact rfl|(simp;done));exact rfl;(with_reducible exact zC2);(with_reducible exact zA7);(with_reducible exact zIv);(with_reducible exact zHC);(first|exact zCF (fun _=>rfl)|exact zCE rfl))|apply ay (hd:=rfl)|exact zAE rfl|exact zAC rfl|exact zCT rfl rfl|exact zAw rfl|exact zAm rfl|(apply zCu;exact rfl;(with_reducible exact zBw))|(apply zCC;(with_reducible exact zC2);(with_reducible exact zA7);(with_reducible exact zIu);exact rfl;exact rfl;(first|exact zAX rfl zAG|exact zC4 rfl rfl rfl zAG|exact zDG rfl zAG);exact rfl)|(apply zAz;exact rfl;(intro hb);rotate_left;(intro hb);rotate_right)|apply zAI|apply zAP|apply zAM|apply zAt|apply en_e|apply eb_n|apply eb_e|apply zAJ|(apply zGx;exact rfl;exact rfl;(first|exact rfl|(simp;done)))|exact zAG|refine zAX rfl ?_
    · simp only [List.length_map,List.length_range,List.length_singleton];omega
    · simp only [List.length_map,List.length_range] at hb
      have h3 : 0 ≤ seqE L ((k : Int) + 1) (i + 1):=by
        rcases Int.lt_or_le (seqE L ((k : Int) + 1) (i + 1)) 0 with h4 | h4
        · have:=zGI (j:=v.kids.toNat) h4 (by omega);omega
        · exact h4
      refine ⟨i + 1,⟨by omega,h3⟩,by omega,?_⟩
      refine zAO (zAA rfl (Le_d rfl ?_ (zBt rfl ?_ (zAA rfl zAa)))) (zAu rfl rfl (zK1 _ i).symm zAN) rfl rfl
      · rw [zD5 hi2]
      · simp only [List.length_map,List.length_range,List.length_singleton]
    · simp only [List.length_map,List.length_range] at hb
      rw [hf,show i = v.kids.toNat by omega];rfl
end Go.Proofs.YtblomnkamngnbaaGreatDoor
