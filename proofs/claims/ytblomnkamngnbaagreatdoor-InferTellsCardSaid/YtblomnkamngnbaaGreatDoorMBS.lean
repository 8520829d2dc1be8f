/- Texts of this claim, merged: RefC. -/
import Derived.Test.YtblomnkamngnbaaGreatDoorMAB
import Derived.Test.YtblomnkamngnbaaGreatDoorMAH
import Derived.Test.YtblomnkamngnbaaGreatDoorMAN
import Derived.Test.YtblomnkamngnbaaGreatDoorMAU
import Derived.Test.YtblomnkamngnbaaGreatDoorMAY
import Derived.Test.YtblomnkamngnbaaGreatDoorMBR
namespace Go.Proofs.YtblomnkamngnbaaGreatDoor
open Go.Sx
def Txs (L : List Nd) : Prop:=∀ x ∈ L,x.text.length ≤ 1000000
attribute [local irreducible] zAT Program.underlying Ylds zBA alex zBe zBP awp zAj zBZ zBk zA2 zBH zBR zA8 zBV zBb zBf zBu zBO
set_option maxHeartbeats 4000000 in
theorem zI6 (L : List Nd) (hL : L.length ≤ 1000000) (hT : Txs L) : ∀ (m n : Nat) (t : Tr) (pat : Bool),t.sz ≤ m → At L n t → zAj Tryz.prog 25 [zAc L,i64 (n : Int),bl pat] (i64 (t.werr pat))
  | 0,n,t,pat,hm,_=>by have:=zBS t;omega
  | m + 1,n,.mk x ks,pat,hm,h=>by
    have hx:=h.here
    have hlen : n < L.length:=(List.getElem?_eq_some_iff.1 hx).1
    have hsz : (Tr.mk x ks).sz = szL ks + 1:=by rw [Tr.sz]
    have hnd : zAj Tryz.prog 45 [zAc L,i64 (n : Int),bl pat] (i64 (zEG x (Tr.kind1 (.mk x ks)) pat)):=by
      by_cases h8 : x.kind = 8 ∧ cntK x.kind x.kids = true
      · obtain ⟨y,hy1,hy2⟩:=zSU h h8.1 h8.2
        exact zKq L n x y _ pat hx (fun _ _=>⟨hy1,hy2⟩) (by omega) (hT x (List.mem_of_getElem? hx))
      · exact zKq L n x x _ pat hx (fun a b=>absurd ⟨a,b⟩ h8) (by omega) (hT x (List.mem_of_getElem? hx))
    have hkid:=zEt L (n : Int) (by omega)
    have hkl:=h.kids_len
    have hkg : ∀ i,i < ks.length → (zBX L (n : Int))[i]? = some ((kidAt n ks i : Nat) : Int):=fun i hi=>h.kids_get hi
    have hkat : ∀ i k,ks[i]? = some k → At L (kidAt n ks i) k:=fun i k hik=>h.kid hik
    rw [Tr.werr]
    generalize zEG x (Tr.kind1 (.mk x ks)) pat = e at *
    generalize zBX L (n : Int) = KK at *
    refine zAd Tryz.func25 rfl Tryz.ntmps25 Tryz.results25 rfl ?_
    intro wb St0
    by_cases he : e = 0
    · subst he
      rw [if_neg (by decide)]
      repeat' first | apply en_n|apply zAH|apply zAB|apply zAF|apply w0|(apply zBU;exact rfl;exact rfl;first|assumption|omega)|(refine zAV zLE hnd (zAX rfl (zAX rfl (zAX rfl zAG))))|(refine zAV zEw hkid (zAX rfl (zAX rfl zAG)))|apply ay (hd:=rfl)|exact zAE rfl|exact zAC rfl|(apply zAQ;exact rfl)|apply zAI|apply zAP
      refine zAr (α:=Nat) (fun i=>i ≤ ks.length ∧ zDc (decide (x.kind = 10)) pat ks 0 = zDc (decide (x.kind = 10)) pat (ks.drop i) i) (fun i=>[(0,.d (zAc L)),(1,.d (i64 (n : Int))),(2,.d (bl pat)),(8,.d (zBm KK)),(9,.d (i64 (i : Int)))]) (fun _=>[]) (fun i=>ks.length - i) 0 ⟨Nat.zero_le _,rfl⟩
        (zAO (zAA rfl (zAA rfl (zAA rfl (zAA rfl (Le_d rfl rfl zAa))))) zAN rfl rfl) ?_
      rintro i ⟨hi1,hi2⟩
      rcases Nat.lt_or_ge i ks.length with hlt | hge
      · obtain ⟨k,hk⟩ : ∃ k,ks[i]? = some k:=⟨_,List.getElem?_eq_getElem hlt⟩
        have hki:=hkg i hlt
        have hks:=zCo (List.mem_of_getElem? hk)
        have ih:=zI6 L hL hT m (kidAt n ks i) k (pat || (decide (x.kind = 10) && decide (i % 2 = 1))) (by omega) (hkat i k hk)
        rw [zIx hk] at hi2
        have hli : (i : Int) < (KK.length : Int):=by omega
        have hodd : (i : Int).tmod 2 = ((i % 2 : Nat) : Int):=rfl
        have hib : i ≤ 1000000:=by have:=zD4 ks;have:=h.len;omega
        generalize hq : (pat || (decide (x.kind = 10) && decide (i % 2 = 1))) = q at *
        have hq2 : (pat = true ∧ q = true) ∨ (pat = false ∧ x.kind = 10 ∧ (i : Int).tmod 2 = 1 ∧ q = true) ∨ (pat = false ∧ x.kind = 10 ∧ ¬ (i : Int).tmod 2 = 1 ∧ q = false) ∨ (pat = false ∧ ¬ x.kind = 10 ∧ q = false):=by
          rw [hodd]
          cases pat with
          | true=>exact .inl ⟨rfl,by rw [← hq];simp⟩
          | false =>
            by_cases c1 : x.kind = 10
            · by_cases c2 : i % 2 = 1
              · exact .inr (.inl ⟨rfl,c1,by omega,by rw [← hq];simp [c1,c2]⟩)
              · exact .inr (.inr (.inl ⟨rfl,c1,by omega,by rw [← hq];simp [c2]⟩))
            · exact .inr (.inr (.inr ⟨rfl,c1,by rw [← hq];simp [c1]⟩))
        have hkl2 : kidAt n ks i < L.length:=by have:=(hkat i k hk).len;have:=zBS k;omega
        generalize kidAt n ks i = p at *
        clear hq hodd hkg hkat hnd hkid h
        by_cases he2 : k.werr q = 0
        · rw [if_neg (by rw [he2];decide)] at hi2
          rw [he2] at ih
          clear he2
          rcases hq2 with ⟨rfl,rfl⟩ | ⟨rfl,c1,c2,rfl⟩ | ⟨rfl,c1,c2,rfl⟩ | ⟨rfl,c1,rfl⟩
          all_goals
            repeat' first | apply en_n|apply zAH|apply zAB|apply zAF|apply w0|(apply kUd (hd:=rfl);exact rfl;exact rfl)|(apply k1ud (hd:=rfl);exact rfl;exact rfl)|(apply k0ud (hd:=rfl);exact rfl;exact rfl)|(apply zA5;exact rfl;exact rfl;first|assumption|omega)|(apply zBD;exact rfl;exact rfl;first|assumption|omega)|(apply zA9;exact rfl;exact rfl;first|assumption|omega)|(apply zBU;exact rfl;exact rfl;first|assumption|omega)|(apply zMZ;exact rfl;exact rfl;exact (by decide))|(refine zAV zEf ih (zAX rfl (zAX rfl (zAX rfl zAG))))|(apply aJ (hd:=rfl);(first|exact zAk rfl|exact Co_bb rfl rfl rfl|exact Co_nn rfl);exact rfl;(with_reducible first|exact zAW|exact zA7);assumption;omega;exact fun _=>rfl)|apply ay (hd:=rfl)|exact zAE rfl|exact zAC rfl|(apply zAy;exact rfl;(with_reducible exact fn_0))|(apply zAg;exact rfl;(with_reducible first|exact zAs|exact zAe))|(apply zAl;exact rfl;(with_reducible exact zBw))|(apply zBC;exact rfl;exact rfl)|exact zAi rfl rfl|exact zAh rfl rfl|(apply w1;exact rfl;exact rfl)|(apply zAK;exact rfl)|(apply zAQ;exact rfl)|apply zAI|apply zAP|refine zA6 (by kernel_rfl) (by kernel_rfl) ?_|apply eb_n
          all_goals try omega
          all_goals exact ⟨i + 1,⟨by omega,hi2⟩,by omega,zAO (zAA rfl (zAA rfl (zAA rfl (zAA rfl (zAA rfl zAa))))) zAN rfl rfl⟩
        · rw [if_pos he2] at hi2
          rw [hi2]
          generalize k.werr q = e2 at *
          rcases hq2 with ⟨rfl,rfl⟩ | ⟨rfl,c1,c2,rfl⟩ | ⟨rfl,c1,c2,rfl⟩ | ⟨rfl,c1,rfl⟩
          all_goals
            repeat' first | apply en_n|apply zAH|apply zAB|apply zAF|apply w0|(apply kUd (hd:=rfl);exact rfl;exact rfl)|(apply k1ud (hd:=rfl);exact rfl;exact rfl)|(apply k0ud (hd:=rfl);exact rfl;exact rfl)|(apply zA5;exact rfl;exact rfl;first|assumption|omega)|(apply zBD;exact rfl;exact rfl;first|assumption|omega)|(apply zA9;exact rfl;exact rfl;first|assumption|omega)|(apply zB7;exact rfl;exact rfl;first|assumption|omega)|(apply zMZ;exact rfl;exact rfl;exact (by decide))|(refine zAV zEf ih (zAX rfl (zAX rfl (zAX rfl zAG))))|(apply aJ (hd:=rfl);(first|exact zAk rfl|exact Co_bb rfl rfl rfl|exact Co_nn rfl);exact rfl;(with_reducible first|exact zAW|exact zA7);assumption;omega;exact fun _=>rfl)|apply ay (hd:=rfl)|exact zAE rfl|exact zAC rfl|(apply zAy;exact rfl;(with_reducible exact fn_0))|(apply zAg;exact rfl;(with_reducible first|exact zAs|exact zAe))|(apply zAl;exact rfl;(with_reducible exact zBw))|exact zAi rfl rfl|exact zAh rfl rfl|(apply w1;exact rfl;exact rfl)|(apply zAK;exact rfl)|apply zAI|apply zAP|apply zAM|refine zA6 (by kernel_rfl) (by kernel_rfl) ?_|apply en_r|apply eb_r|apply zAJ|(apply res1;exact rfl)
          all_goals try omega
          all_goals rfl
      · have hli : ¬ (i : Int) < (KK.length : Int):=by omega
        rw [List.drop_of_length_le hge,zDc] at hi2
        rw [hi2]
        skip
        repeat' first | apply en_n|apply zAH|apply zAB|apply zAF|apply w0|(apply zBq;exact rfl;exact rfl;first|assumption|omega)|apply ay (hd:=rfl)|exact zAE rfl|exact zAC rfl|(apply zAl;exact rfl;(with_reducible exact zBw))|(apply zAQ;exact rfl)|apply zAM|apply zAt|apply en_e|apply eb_e|apply zAJ|(apply res1;exact rfl)
        all_goals rfl
    · rw [if_pos he]
      repeat' first | apply en_n|apply zAH|apply zAB|apply zAF|apply w0|(apply zB7;exact rfl;exact rfl;first|assumption|omega)|(refine zAV zLE hnd (zAX rfl (zAX rfl (zAX rfl zAG))))|apply ay (hd:=rfl)|exact zAE rfl|exact zAC rfl|(apply zAK;exact rfl)|apply zAM|apply en_r|apply zAJ|(apply res1;exact rfl)
      all_goals rfl
theorem zG3 : ∀ (ks : List Tr),zBJ (flL ks) = (ks.map fun k=>zBJ k.fl).flatten
  | []=>rfl
  | k :: r=>by
    rw [flL,List.map_cons,List.flatten_cons, ← zG3 r]
    unfold zBJ;rw [List.filterMap_append]
theorem zN9 {x : Nd} {ks : List Tr} (hw : (Tr.mk x ks).werr true = 0) (hf : (Tr.mk x ks).wf) : (x.kind = 22 ∧ ks = [] ∧ zBJ (Tr.mk x ks).fl = [x.text]) ∨ (x.kind ≠ 22 ∧ zBJ (Tr.mk x ks).fl = (ks.map fun k=>zBJ k.fl).flatten):=by
  by_cases h : x.kind = 22
  · have h1:=(zCO (zC7 hw).1).2.2
    rw [h] at h1
    have h0 : x.kids = 0:=by simpa [cntK] using h1
    rw [Tr.wf] at hf
    have : ks = []:=List.eq_nil_of_length_eq_zero (by omega)
    subst this
    exact .inl ⟨h,rfl,by rw [Tr.fl,flL,zBJ];simp [h]⟩
  · refine .inr ⟨h,?_⟩
    rw [← zG3,Tr.fl]
    unfold zBJ
    rw [List.filterMap_cons]
    simp [h]
set_option maxHeartbeats 4000000 in
theorem zKs (L : List Nd) (hL : L.length ≤ 1000000) : ∀ (m n : Nat) (t : Tr),t.sz ≤ m → At L n t → t.werr true = 0 → zAj Tryz.prog 47 [zAc L,i64 (n : Int)] (strs (zBJ t.fl))
  | 0,n,t,hm,_,_=>by have:=zBS t;omega
  | m + 1,n,.mk x ks,hm,h,hw=>by
    have hx:=h.here
    have hlen : n < L.length:=(List.getElem?_eq_some_iff.1 hx).1
    have hsz : (Tr.mk x ks).sz = szL ks + 1:=by rw [Tr.sz]
    have hkid:=zEt L (n : Int) (by omega)
    have hkl:=h.kids_len
    have hkg : ∀ i,i < ks.length → (zBX L (n : Int))[i]? = some ((kidAt n ks i : Nat) : Int):=fun i hi=>h.kids_get hi
    have hkat : ∀ i k,ks[i]? = some k → At L (kidAt n ks i) k:=fun i k hik=>h.kid hik
    have hwk:=(zC7 hw).2
    generalize zBX L (n : Int) = KK at *
    refine zAd Tryz.func47 rfl Tryz.ntmps47 Tryz.results47 rfl ?_
    intro wb St0
    rcases zN9 hw h.wf with ⟨h22,rfl,e⟩ | ⟨h22,e⟩
    · rw [e]
      clear hw hwk e
      repeat' first | apply en_n|apply zAH|apply zAB|apply zAF|apply w0|(apply zBD;exact rfl;exact rfl;first|assumption|omega)|(apply aJ (hd:=rfl);(first|exact zAk rfl|exact Co_bb rfl rfl rfl|exact Co_nn rfl);exact rfl;(with_reducible exact zAW);assumption;omega;exact fun _=>rfl)|apply ay (hd:=rfl)|exact zAE rfl|exact zAC rfl|(apply zAy;exact rfl;(with_reducible first|exact fn_0|exact fn_1))|(apply zAg;exact rfl;(with_reducible first|exact zAe|exact zAv))|exact zAb rfl|(apply zCC;(with_reducible first|exact zB1|exact zB1);(with_reducible first|exact zBW|exact zBW);(with_reducible first|exact zDk|exact zDk);exact rfl;exact rfl;(first|exact zAX rfl zAG|exact zC4 rfl rfl rfl zAG|exact zDG rfl zAG);exact rfl)|(apply zAK;exact rfl)|apply zAM|apply en_r|apply zAJ|(apply res1;exact rfl)
      all_goals rfl
    · rw [e]
      have hnl : ∀ i,((ks.take i).map fun k=>zBJ k.fl).flatten.length ≤ 1000000:=fun i=>by
        have h1 : ((ks.take i).map fun k=>zBJ k.fl).flatten = zBJ (flL (ks.take i)):=(zG3 _).symm
        rw [h1]
        have h2:=zEb (flL (ks.take i))
        have h3 : (flL (ks.take i)).length ≤ (flL ks).length:=by
          conv=>rhs;rw [← List.take_append_drop i ks]
          rw [zFn,zFn,List.map_append,List.flatten_append,List.length_append];omega
        have h4:=zKH ks
        have:=h.len;omega
      clear hw e
      skip
      repeat' first | apply en_n|apply zAH|apply zAB|apply zAF|apply w0|(apply zA9;exact rfl;exact rfl;first|assumption|omega)|(apply zMY (hd:=rfl) (hro:=rfl);(with_reducible exact zB1);(with_reducible exact zBW);(with_reducible exact zDk);exact rfl)|(refine zAV zEw hkid (zAX rfl (zAX rfl zAG)))|(apply aJ (hd:=rfl);(first|exact zAk rfl|exact Co_bb rfl rfl rfl|exact Co_nn rfl);exact rfl;(with_reducible exact zAW);assumption;omega;exact fun _=>rfl)|apply ay (hd:=rfl)|exact zAE rfl|exact zAC rfl|(apply zAy;exact rfl;(with_reducible exact fn_0))|(apply zAg;exact rfl;(with_reducible exact zAe))|exact zAb rfl|exact zAm rfl|(apply zAQ;exact rfl)|apply zAI|apply zAP
      refine zAr (α:=Nat) (fun i=>i ≤ ks.length) (fun i=>[(0,.d (zAc L)),(1,.d (i64 (n : Int))),(5,.buf 0 (((ks.take i).map fun k=>zBJ k.fl).flatten.map str).length),(6,.d (zBm KK)),(7,.d (i64 (i : Int)))]) (fun i=>[.buf false 9 1 (((ks.take i).map fun k=>zBJ k.fl).flatten.map str)]) (fun i=>ks.length - i) 0 (Nat.zero_le _)
        (zAO (zAA rfl (zAA rfl (zBt rfl rfl (zAA rfl (Le_d rfl rfl zAa))))) (zAu rfl rfl rfl zAN) rfl rfl) ?_
      intro i hi1
      have hn1:=hnl i
      rcases Nat.lt_or_ge i ks.length with hlt | hge
      · obtain ⟨k,hk⟩ : ∃ k,ks[i]? = some k:=⟨_,List.getElem?_eq_getElem hlt⟩
        have hki:=hkg i hlt
        have hks:=zCo (List.mem_of_getElem? hk)
        have ih:=zKs L hL m (kidAt n ks i) k (by omega) (hkat i k hk) (by simpa using zBa (j:=i) hwk hk)
        have hli : (i : Int) < (KK.length : Int):=by omega
        have hib : i ≤ 1000000:=by have:=zD4 ks;have:=h.len;omega
        have hkn : (zBJ k.fl).length ≤ 1000000:=by have:=zEb k.fl;rw [Tr.fl_len] at this;have:=h.len;omega
        have e : ((ks.take (i + 1)).map fun k=>zBJ k.fl).flatten = ((ks.take i).map fun k=>zBJ k.fl).flatten ++ zBJ k.fl:=by
          rw [List.take_add_one,hk,Option.toList_some,List.map_append,List.flatten_append];simp
        generalize kidAt n ks i = p at *
        clear hkg hkat hkid h hnl hwk
        skip
        repeat' first | apply en_n|apply zAH|apply zAB|apply zAF|apply w0|(apply zA5;exact rfl;exact rfl;first|assumption|omega)|(apply aApp (id:=0) (hd:=rfl) (hro:=rfl);exact rfl;exact rfl;(first|exact zAk rfl|exact Co_bb rfl rfl rfl|exact Co_nn rfl);(first|exact rfl|exact (by simp));exact rfl;(with_reducible first|exact zB1|exact zB1);(with_reducible first|exact zBW|exact zBW);(with_reducible first|exact zHx|exact zHx);(with_reducible first|exact zF8|exact zF8);(first|exact zCF (fun _=>rfl)|exact zCE rfl))|(refine zAV zLF ih (zAX rfl (zAX rfl zAG)))|(apply aJ (hd:=rfl);(first|exact zAk rfl|exact Co_bb rfl rfl rfl|exact Co_nn rfl);exact rfl;(with_reducible exact zA7);assumption;omega;exact fun _=>rfl)|apply ay (hd:=rfl)|exact zAE rfl|exact zAC rfl|(apply zAg;exact rfl;(with_reducible exact zAs))|(apply zAl;exact rfl;(with_reducible exact zBw))|(apply zBC;exact rfl;exact rfl)|exact zAw rfl|exact zAm rfl|(apply zAK;exact rfl)|apply zAI|apply zAP|apply eb_n
        all_goals first | omega | skip
        · simp only [List.length_map];omega
        · exact ⟨i + 1,by omega,by omega,zAO (zAA rfl (zAA rfl (zBt rfl (by rw [e];simp) (zAA rfl (zAA rfl zAa))))) (zAu rfl rfl (by rw [e,List.map_append]) zAN) rfl rfl⟩
      · have hli : ¬ (i : Int) < (KK.length : Int):=by omega
        have e : ks.take i = ks:=List.take_of_length_le hge
        skip
        repeat' first | apply en_n|apply zAH|apply zAB|apply zAF|apply w0|(apply zBq;exact rfl;exact rfl;first|assumption|omega)|apply ay (hd:=rfl)|exact zAE rfl|(apply zAl;exact rfl;(with_reducible exact zBw))|exact zAw rfl|exact zAm rfl|(apply zAQ;exact rfl)|apply zAM|apply zAt|apply en_e|apply eb_e|apply zAJ|(apply zGx;exact rfl;exact rfl;(first|exact rfl|(simp;done)))
        first
          | exact ⟨_,_,_,rfl,by simp,by rw [List.take_of_length_le (by simp),e];rfl⟩
          | (rw [e];rfl)
theorem zN8 {l : List (List UInt8)} {i : Nat} {x : List UInt8} (h : l[i]? = some x) (hn : (l.take i).Nodup) : (l.take (i + 1)).Nodup ↔ x ∉ l.take i:=by
  rw [List.take_add_one,h,Option.toList_some,List.nodup_append]
  constructor
  · rintro ⟨_,_,h3⟩ hx;exact h3 x hx x (by simp) rfl
  · exact fun hx=>⟨hn,by simp,fun a ha b hb=>by rw [List.mem_singleton] at hb;subst hb;exact fun e=>hx (e ▸ ha)⟩
theorem zQ6 {ks : List Tr} {i : Nat} {k : Tr} (h : ks[i]? = some k) : twL (ks.drop i) = (k.tw || twL (ks.drop (i + 1))):=by
  obtain ⟨hi,rfl⟩:=List.getElem?_eq_some_iff.1 h
  rw [List.drop_eq_getElem_cons hi,twL]
set_option maxHeartbeats 4000000 in
theorem zI5 (L : List Nd) (hL : L.length ≤ 1000000) : ∀ (m n : Nat) (t : Tr) (pat : Bool),t.sz ≤ m → At L n t → t.werr pat = 0 → zAj Tryz.prog 26 [zAc L,i64 (n : Int)] (bl t.tw)
  | 0,n,t,_,hm,_,_=>by have:=zBS t;omega
  | m + 1,n,.mk x ks,pat,hm,h,hw=>by
    have hx:=h.here
    have hlen : n < L.length:=(List.getElem?_eq_some_iff.1 hx).1
    have hsz : (Tr.mk x ks).sz = szL ks + 1:=by rw [Tr.sz]
    have hi:=zGz x.kind
    have hpat : patK x.kind = pat:=(zCO (zC7 hw).1).2.1
    refine zAd Tryz.func26 rfl Tryz.ntmps26 Tryz.results26 rfl ?_
    intro wb St0
    cases hk : patK x.kind with
    | true =>
      rw [hk] at hi hpat
      subst hpat
      have hv:=zKs L hL _ n _ (Nat.le_refl _) h hw
      have hnl:=zEb (Tr.mk x ks).fl
      rw [Tr.fl_len] at hnl
      have hll:=h.len
      have e : (Tr.mk x ks).tw = !decide (zBJ (Tr.mk x ks).fl).Nodup:=by rw [Tr.tw,if_pos hk,Tr.fl]
      rw [e]
      generalize zBJ (Tr.mk x ks).fl = l at *
      clear e hw h
      repeat' first | apply en_n|apply zAH|apply zAB|apply zAF|apply w0|(refine zAV zC1 hi (zAX rfl zAG))|(refine zAV zLF hv (zAX rfl (zAX rfl zAG)))|(apply aJ (hd:=rfl);(first|exact zAk rfl|exact Co_bb rfl rfl rfl|exact Co_nn rfl);exact rfl;(with_reducible exact zAW);assumption;omega;exact fun _=>rfl)|apply ay (hd:=rfl)|exact zAE rfl|exact zAC rfl|(apply zAy;exact rfl;(with_reducible exact fn_0))|(apply zAg;exact rfl;(with_reducible exact zAe))|(apply zAK;exact rfl)|apply zAI
      refine zAr (α:=Nat) (fun i=>i ≤ l.length ∧ (l.take i).Nodup) (fun i=>[(5,.d (strs l)),(6,.d (i64 (i : Int)))]) (fun _=>[]) (fun i=>l.length - i) 0 ⟨Nat.zero_le _,by simp⟩
        (zAO (zAA rfl (Le_d rfl rfl zAa)) zAN rfl rfl) ?_
      rintro i ⟨hi1,hi2⟩
      have hll2 : l.length ≤ 1000000:=by omega
      rcases Nat.lt_or_ge i l.length with hlt | hge
      · obtain ⟨v,hv1⟩ : ∃ v,l[i]? = some v:=⟨_,List.getElem?_eq_getElem hlt⟩
        have hli : (i : Int) < (l.length : Int):=by omega
        have hv0 : l[((i : Nat) : Int).toNat]? = some v:=by rw [Int.toNat_natCast];exact hv1
        have hnd:=zN8 hv1 hi2
        skip
        repeat' first | apply en_n|apply zAH|apply zAB|apply zAF|apply w0|(apply zA5;exact rfl;exact rfl;first|assumption|omega)|apply ay (hd:=rfl)|exact zAE rfl|exact zAC rfl|(apply zAl;exact rfl;(with_reducible first|exact zC5|exact zC5))|(apply zAK;exact rfl)|apply zAI|apply zAP
        refine zAr (α:=Nat) (fun j=>j ≤ i ∧ v ∉ l.take j) (fun j=>[(5,.d (strs l)),(6,.d (i64 (i : Int))),(7,.d (i64 (j : Int)))]) (fun _=>[]) (fun j=>i - j) 0 ⟨Nat.zero_le _,by simp⟩
          (zAO (zAA rfl (zAA rfl (Le_d rfl rfl zAa))) zAN rfl rfl) ?_
        rintro j ⟨hj1,hj2⟩
        rcases Nat.lt_or_ge j i with hjlt | hjge
        · obtain ⟨w,hw1⟩ : ∃ w,l[j]? = some w:=⟨_,List.getElem?_eq_getElem (by omega)⟩
          have hlj : (j : Int) < (i : Int):=by omega
          have hw0 : l[((j : Nat) : Int).toNat]? = some w:=by rw [Int.toNat_natCast];exact hw1
          have hljl : (j : Int) < (l.length : Int):=by omega
          by_cases hvw : v = w
          · have hnot : ¬ l.Nodup:=fun c=>by
              have h1 : (l.take (i + 1)).Nodup:=c.sublist (List.take_sublist _ _)
              refine hnd.1 h1 ?_
              rw [hvw]
              exact List.mem_of_getElem? (i:=j) (by rw [List.getElem?_take,if_pos hjlt];exact hw1)
            rw [decide_eq_false hnot]
            skip
            repeat' first | apply en_n|apply zAH|apply zAB|apply zAF|apply w0|(apply zA5;exact rfl;exact rfl;first|assumption|omega)|(apply Y_eqsT;exact rfl;exact rfl;assumption)|(apply aJ (hd:=rfl);(first|exact zAk rfl|exact Co_bb rfl rfl rfl|exact Co_nn rfl);exact rfl;(with_reducible first|exact zBW|exact zBW);assumption;omega;exact fun _=>rfl)|apply ay (hd:=rfl)|exact zAE rfl|exact zAC rfl|(apply zAg;exact rfl;(with_reducible exact zAv))|(apply zAK;exact rfl)|apply zAI|apply zAP|apply zAM|refine zA6 (by kernel_rfl) (by kernel_rfl) ?_|apply en_r|apply eb_r|apply zAJ|(apply res1;exact rfl)
            all_goals first | omega | rfl
          · skip
            repeat' first | apply en_n|apply zAH|apply zAB|apply zAF|apply w0|(apply zA5;exact rfl;exact rfl;first|assumption|omega)|(apply Y_eqsF;exact rfl;exact rfl;assumption)|(apply aJ (hd:=rfl);(first|exact zAk rfl|exact Co_bb rfl rfl rfl|exact Co_nn rfl);exact rfl;(with_reducible first|exact zBW|exact zBW);assumption;omega;exact fun _=>rfl)|apply ay (hd:=rfl)|exact zAE rfl|exact zAC rfl|(apply zAg;exact rfl;(with_reducible exact zAv))|(apply zBC;exact rfl;exact rfl)|(apply zAK;exact rfl)|(apply zAQ;exact rfl)|apply zAI|apply zAP|refine zA6 (by kernel_rfl) (by kernel_rfl) ?_|apply eb_n
            all_goals first | omega | skip
            all_goals exact ⟨j + 1,⟨by omega,by rw [List.take_add_one,hw1,Option.toList_some,List.mem_append,List.mem_singleton];exact fun c=>c.elim hj2 hvw⟩,by omega,zAO (zAA rfl (zAA rfl (zAA rfl zAa))) zAN rfl rfl⟩
        · have hlj : ¬ (j : Int) < (i : Int):=by omega
          have e : j = i:=by omega
          subst e
          skip
          repeat' first | apply en_n|apply zAH|apply zAB|apply zAF|apply w0|(apply zBq;exact rfl;exact rfl;first|assumption|omega)|apply ay (hd:=rfl)|exact zAE rfl|exact zAC rfl|(apply zBC;exact rfl;exact rfl)|(apply zAQ;exact rfl)|apply zAt|apply en_e|apply eb_n|apply eb_e
          all_goals first | omega | skip
          all_goals exact ⟨j + 1,⟨by omega,hnd.2 hj2⟩,by omega,zAO (zAA rfl (zAA rfl zAa)) zAN rfl rfl⟩
      · have hli : ¬ (i : Int) < (l.length : Int):=by omega
        rw [List.take_of_length_le hge] at hi2
        rw [decide_eq_true hi2]
        skip
        repeat' first | apply en_n|apply zAH|apply zAB|apply zAF|apply w0|(apply zBq;exact rfl;exact rfl;first|assumption|omega)|apply ay (hd:=rfl)|exact zAE rfl|exact zAC rfl|(apply zAl;exact rfl;(with_reducible first|exact zC5|exact zC5))|(apply zAQ;exact rfl)|apply zAM|apply zAt|apply en_r|apply en_e|apply eb_e|apply zAJ|(apply res1;exact rfl)
        all_goals rfl
    | false =>
      rw [hk] at hi
      have hkid:=zEt L (n : Int) (by omega)
      have hkl:=h.kids_len
      have hkg : ∀ i,i < ks.length → (zBX L (n : Int))[i]? = some ((kidAt n ks i : Nat) : Int):=fun i hi=>h.kids_get hi
      have hkat : ∀ i k,ks[i]? = some k → At L (kidAt n ks i) k:=fun i k hik=>h.kid hik
      have hwk:=(zC7 hw).2
      have e : (Tr.mk x ks).tw = twL ks:=by rw [Tr.tw,if_neg (by rw [hk];decide)]
      rw [e]
      have hsl:=zD4 ks
      have hll:=h.len
      generalize zBX L (n : Int) = KK at *
      clear e hw
      repeat' first | apply en_n|apply zAH|apply zAB|apply zAF|apply w0|(refine zAV zC1 hi (zAX rfl zAG))|(refine zAV zEw hkid (zAX rfl (zAX rfl zAG)))|(apply aJ (hd:=rfl);(first|exact zAk rfl|exact Co_bb rfl rfl rfl|exact Co_nn rfl);exact rfl;(with_reducible exact zAW);assumption;omega;exact fun _=>rfl)|apply ay (hd:=rfl)|exact zAE rfl|exact zAC rfl|(apply zAy;exact rfl;(with_reducible exact fn_0))|(apply zAg;exact rfl;(with_reducible exact zAe))|(apply zAQ;exact rfl)|apply zAI|apply zAP
      refine zAr (α:=Nat) (fun i=>i ≤ ks.length ∧ twL ks = twL (ks.drop i)) (fun i=>[(0,.d (zAc L)),(8,.d (zBm KK)),(9,.d (i64 (i : Int)))]) (fun _=>[]) (fun i=>ks.length - i) 0 ⟨Nat.zero_le _,rfl⟩
        (zAO (zAA rfl (zAA rfl (Le_d rfl rfl zAa))) zAN rfl rfl) ?_
      rintro i ⟨hi1,hi2⟩
      rcases Nat.lt_or_ge i ks.length with hlt | hge
      · obtain ⟨k,hk⟩ : ∃ k,ks[i]? = some k:=⟨_,List.getElem?_eq_getElem hlt⟩
        have hki:=hkg i hlt
        have hks:=zCo (List.mem_of_getElem? hk)
        have ih:=zI5 L hL m (kidAt n ks i) k _ (by omega) (hkat i k hk) (zBa (j:=i) hwk hk)
        have hli : (i : Int) < (KK.length : Int):=by omega
        rw [zQ6 hk] at hi2
        generalize kidAt n ks i = p at *
        clear hkg hkat hkid h hwk
        cases hb9 : k.tw with
        | true =>
          rw [hb9] at ih hi2
          rw [hi2,Bool.true_or]
          skip
          repeat' first | apply en_n|apply zAH|apply zAB|apply zAF|apply w0|(apply zA5;exact rfl;exact rfl;first|assumption|omega)|(refine zAV zFj ih (zAX rfl (zAX rfl zAG)))|(apply aJ (hd:=rfl);(first|exact zAk rfl|exact Co_bb rfl rfl rfl|exact Co_nn rfl);exact rfl;(with_reducible exact zA7);assumption;omega;exact fun _=>rfl)|apply ay (hd:=rfl)|exact zAE rfl|exact zAC rfl|(apply zAg;exact rfl;(with_reducible exact zAs))|(apply zAl;exact rfl;(with_reducible exact zBw))|(apply zAK;exact rfl)|apply zAI|apply zAP|apply zAM|apply en_r|apply eb_r|apply zAJ|(apply res1;exact rfl)
          all_goals first | omega | rfl
        | false =>
          rw [hb9] at ih hi2
          rw [Bool.false_or] at hi2
          skip
          repeat' first | apply en_n|apply zAH|apply zAB|apply zAF|apply w0|(apply zA5;exact rfl;exact rfl;first|assumption|omega)|(refine zAV zFj ih (zAX rfl (zAX rfl zAG)))|(apply aJ (hd:=rfl);(first|exact zAk rfl|exact Co_bb rfl rfl rfl|exact Co_nn rfl);exact rfl;(with_reducible exact zA7);assumption;omega;exact fun _=>rfl)|apply ay (hd:=rfl)|exact zAE rfl|exact zAC rfl|(apply zAg;exact rfl;(with_reducible exact zAs))|(apply zAl;exact rfl;(with_reducible exact zBw))|(apply zBC;exact rfl;exact rfl)|(apply zAK;exact rfl)|(apply zAQ;exact rfl)|apply zAI|apply zAP|apply eb_n
          all_goals first | omega | skip
          all_goals exact ⟨i + 1,⟨by omega,hi2⟩,by omega,zAO (zAA rfl (zAA rfl (zAA rfl zAa))) zAN rfl rfl⟩
      · have hli : ¬ (i : Int) < (KK.length : Int):=by omega
        rw [List.drop_of_length_le hge,twL] at hi2
        rw [hi2]
        skip
        repeat' first | apply en_n|apply zAH|apply zAB|apply zAF|apply w0|(apply zBq;exact rfl;exact rfl;first|assumption|omega)|apply ay (hd:=rfl)|exact zAE rfl|exact zAC rfl|(apply zAl;exact rfl;(with_reducible exact zBw))|(apply zAQ;exact rfl)|apply zAM|apply zAt|apply en_e|apply eb_e|apply zAJ|(apply res1;exact rfl)
        all_goals rfl
end Go.Proofs.YtblomnkamngnbaaGreatDoor
