/- Texts of this claim, merged: SynC. -/
import Derived.Test.YtblomnkamngnbaaGreatDoorMAT
import Derived.Test.YtblomnkamngnbaaGreatDoorMAU
namespace Go.Proofs.YtblomnkamngnbaaGreatDoor
open Go.Sx
attribute [local irreducible] zAO Program.underlying Ylds zA3 alex zBY zBN awp zAm zBT zBe zAx zBA zBP zA2 zBR zBX zBa zBq zBI VCall
theorem zOh (L : List Nd) (n : Nat) (x : Nd) (ks : List Tr) (h : At L n (.mk x ks)) (pat : Bool) (hL : L.length ≤ 2000000) :
    zBA Tryz.prog 96 [.d (i64 (n : Int)),.d (bl pat),.ptr 0 0] (lO L) (i64 (zE7 x (Tr.kind1 (.mk x ks)) pat)):=by
  have hn:=zUM L n x ks h pat hL
  refine zBw Tryz.func96 rfl Tryz.ntmps96 Tryz.results96 rfl ?_
  intro wb St0
  repeat' first | apply en_n|apply zAH|apply zAC|apply zAF|apply w0|(refine zAX zSj hn (zAZ rfl (zAZ rfl (zAZ rfl zAG))))|apply ay (hd:=rfl)|exact zAE rfl|exact zAD rfl|(apply zAV;exact rfl;(with_reducible exact zAg);exact rfl;exact rfl)|apply zAN|apply zAP|(apply res1;exact rfl)
  rfl
def zOa (n : Nat) (t : Tr) (pat : Bool) : D:=if t.werr pat = 0 then .tup [i64 ((n + t.sz : Nat) : Int),i64 0] else .tup [i64 0,i64 (t.werr pat)]
theorem zPZ (x : Nd) (ks : List Tr) (pat : Bool) : Tr.werr (.mk x ks) pat = if zE7 x (Tr.kind1 (.mk x ks)) pat ≠ 0 then zE7 x (Tr.kind1 (.mk x ks)) pat else zC6 (decide (x.kind = 10)) pat ks 0:=by rw [Tr.werr]
theorem zOZ {m pat : Bool} {ks : List Tr} {i : Nat} {k : Tr} (h : ks[i]? = some k) : zC6 m pat (ks.drop i) i = if k.werr (pat || (m && decide (i % 2 = 1))) ≠ 0 then k.werr (pat || (m && decide (i % 2 = 1))) else zC6 m pat (ks.drop (i + 1)) (i + 1):=by
  obtain ⟨hi,rfl⟩:=List.getElem?_eq_some_iff.1 h
  rw [List.drop_eq_getElem_cons hi,zC6]
theorem zFU : ∀ ks : List Tr,ks.length ≤ szL ks
  | []=>Nat.zero_le _
  | k :: r=>by
    have:=zFU r;have:=zBO k
    rw [szL,List.length_cons];omega
set_option maxHeartbeats 4000000 in
theorem zPa (L : List Nd) (hL : L.length ≤ 2000000) : ∀ (m n : Nat) (t : Tr) (pat : Bool),t.sz ≤ m → At L n t →
    zBA Tryz.prog 95 [.d (zAc L),.d (i64 (n : Int)),.d (bl pat),.clo 96 [0]] (lO L) (zOa n t pat)
  | 0,n,t,pat,hm,h=>by have:=zBO t;omega
  | m + 1,n,.mk x ks,pat,hm,h=>by
    have hc:=zOh L n x ks h pat hL
    have hx:=h.here
    have hlen:=h.len
    have hsz : Tr.sz (.mk x ks) = szL ks + 1:=by rw [Tr.sz]
    rw [zOa,zPZ]
    generalize zE7 x (Tr.kind1 (.mk x ks)) pat = e0 at *
    by_cases he : e0 = 0
    · subst he
      rw [show ∀ W : Int,(if (0 : Int) ≠ 0 then (0 : Int) else W) = W from fun W=>if_neg (by decide)]
      refine zLJ Tryz.func95 rfl Tryz.ntmps95 Tryz.results95 rfl ?_
      intro wb St0
      repeat' first | apply en_n|apply zAH|apply zAC|apply zAF|apply w0|(apply zBm;exact rfl;exact rfl;first|assumption|omega)|exact zA8 rfl|(refine zA6 [0] [0] rfl rfl zJV (hc) rfl ?_ rfl (by decide) rfl rfl rfl rfl;(repeat (refine zAI rfl ?_));exact zAM)|(apply aJ (hd:=rfl);(first|exact zAn rfl|exact Co_bb rfl rfl rfl|exact Co_nn rfl);exact rfl;(with_reducible exact zAa);assumption;omega;exact fun _=>rfl)|apply ay (hd:=rfl)|exact zAE rfl|exact zAD rfl|(apply zA5;exact rfl;(with_reducible exact fn_3))|(apply zAi;exact rfl;(with_reducible exact zAz))|(apply zBG;exact rfl;exact rfl)|(apply zAU;exact rfl)|apply zAJ|apply zAT
      all_goals try omega
      refine zAs (α:=Nat) (fun i=>i ≤ ks.length ∧ zC6 (decide (x.kind = 10)) pat (ks.drop i) i = zC6 (decide (x.kind = 10)) pat ks 0)
        (fun i=>[(0,.d (zAc L)),(1,.d (i64 (n : Int))),(2,.d (bl pat)),(3,.clo 96 [0]),(11,.d (i64 (kidAt n ks i : Nat))),(28,.d (i64 x.kids)),(29,.d (i64 (i : Int)))]) (fun _=>lO L) (fun i=>ks.length - i) 0 ⟨Nat.zero_le _,by rw [List.drop_zero]⟩
        (zAL (zAA rfl (zAA rfl (zAA rfl (zAA rfl (Le_d rfl (by rw [zCM];rfl) (zAA rfl (zAA rfl zAW))))))) (zAB rfl rfl zAK) rfl rfl) ?_
      rintro i ⟨hi1,hi2⟩
      have hkn:=h.kidn
      have hsl:=zFU ks
      rcases Nat.lt_or_ge i ks.length with hlt | hge
      · obtain ⟨k,hk⟩ : ∃ k,ks[i]? = some k:=⟨_,List.getElem?_eq_getElem hlt⟩
        have hli : (i : Int) < x.kids:=by omega
        have hAt:=h.kid hk
        have hks:=zCw (List.mem_of_getElem? hk)
        have ih:=zPa L hL m (kidAt n ks i) k (pat || (decide (x.kind = 10) && decide (i % 2 = 1))) (by omega) hAt
        rw [zOZ hk] at hi2
        have hsucc:=zDA (n:=n) hk
        have hkl:=hAt.len
        have hodd : (i : Int).tmod 2 = ((i % 2 : Nat) : Int):=rfl
        generalize hq : (pat || (decide (x.kind = 10) && decide (i % 2 = 1))) = q at *
        have hq2 : (pat = true ∧ q = true) ∨ (pat = false ∧ x.kind = 10 ∧ (i : Int).tmod 2 = 1 ∧ q = true) ∨ (pat = false ∧ x.kind = 10 ∧ ¬ (i : Int).tmod 2 = 1 ∧ q = false) ∨ (pat = false ∧ ¬ x.kind = 10 ∧ q = false):=by
          rw [hodd]
          cases pat with
          | true=>exact .inl ⟨rfl,by rw [← hq];simp⟩
          | false =>
            by_cases c1 : x.kind = 10
            · by_cases c2 : i % 2 = 1
              · exact .inr (.inl ⟨rfl,c1,by omega,by rw [← hq];simp [c1,c2]⟩)
              · exact .inr (.inr (.inl ⟨rfl,c1,by omega,by rw [← hq];simp [c2]⟩))
            · exact .inr (.inr (.inr ⟨rfl,c1,by rw [← hq];simp [c1]⟩))
        clear hq hodd
        by_cases he2 : k.werr q = 0
        · rw [zOa,if_pos he2] at ih
          rw [if_neg (by rw [he2];decide)] at hi2
          have hnx : kidAt n ks i + k.sz = kidAt n ks (i + 1):=hsucc.symm
          rcases hq2 with ⟨rfl,rfl⟩ | ⟨rfl,c1,c2,rfl⟩ | ⟨rfl,c1,c2,rfl⟩ | ⟨rfl,c1,rfl⟩
          all_goals
            repeat' first | apply en_n|apply zAH|apply zAC|apply zAF|apply w0|(apply kU (hd:=rfl);exact rfl;exact rfl)|(apply k1u (hd:=rfl);exact rfl;exact rfl)|(apply k0u (hd:=rfl);exact rfl;exact rfl)|(apply zBK;exact rfl;exact rfl;first|assumption|omega)|(apply zBV;exact rfl;exact rfl;first|assumption|omega)|(apply zBW;exact rfl;exact rfl;first|assumption|omega)|(apply zBm;exact rfl;exact rfl;first|assumption|omega)|exact zA8 rfl|(apply zTI;exact rfl;exact rfl;exact (by decide))|(refine zA6 [0] [] rfl rfl zHx (ih) rfl ?_ rfl (by decide) rfl rfl rfl rfl;(repeat (refine zAI rfl ?_));exact zAM)|(apply aJ (hd:=rfl);(first|exact zAn rfl|exact Co_bb rfl rfl rfl|exact Co_nn rfl);exact rfl;(with_reducible exact zAa);assumption;omega;exact fun _=>rfl)|apply ay (hd:=rfl)|exact zAE rfl|exact zAD rfl|(apply zA5;exact rfl;(with_reducible exact fn_0))|(apply zAi;exact rfl;(with_reducible exact zAk))|(apply zBG;exact rfl;exact rfl)|exact zAq rfl rfl|exact zAo rfl rfl|exact zBM rfl rfl|(apply w1;exact rfl;exact rfl)|(apply zAQ;exact rfl)|(apply zAU;exact rfl)|apply zAJ|apply zAT|apply eb_n
          all_goals try omega
          all_goals exact ⟨i + 1,⟨by omega,hi2⟩,by omega,zAL (zAA rfl (zAA rfl (zAA rfl (zAA rfl (Le_d rfl (by rw [← hnx]) (zAA rfl (zAA rfl zAW))))))) (zAB rfl rfl zAK) rfl rfl⟩
        · rw [zOa,if_neg he2] at ih
          rw [if_pos he2] at hi2
          rw [← hi2,if_neg he2]
          rcases hq2 with ⟨rfl,rfl⟩ | ⟨rfl,c1,c2,rfl⟩ | ⟨rfl,c1,c2,rfl⟩ | ⟨rfl,c1,rfl⟩
          all_goals
            repeat' first | apply en_n|apply zAH|apply zAC|apply zAF|apply w0|(apply kU (hd:=rfl);exact rfl;exact rfl)|(apply k1u (hd:=rfl);exact rfl;exact rfl)|(apply k0u (hd:=rfl);exact rfl;exact rfl)|(apply zBK;exact rfl;exact rfl;first|assumption|omega)|(apply zBV;exact rfl;exact rfl;first|assumption|omega)|(apply zBW;exact rfl;exact rfl;first|assumption|omega)|(apply zCT;exact rfl;exact rfl;first|assumption|omega)|(refine zC8 ?_)|(refine zE5 ?_)|exact zGK|(refine RV_d rfl ?_ ?_)|(with_reducible exact rfl)|exact zA8 rfl|(apply zTI;exact rfl;exact rfl;exact (by decide))|(refine zA6 [0] [] rfl rfl zHx (ih) rfl ?_ rfl (by decide) rfl rfl rfl rfl;(repeat (refine zAI rfl ?_));exact zAM)|(apply aJ (hd:=rfl);(first|exact zAn rfl|exact Co_bb rfl rfl rfl|exact Co_nn rfl);exact rfl;(with_reducible exact zAa);assumption;omega;exact fun _=>rfl)|apply ay (hd:=rfl)|exact zAE rfl|exact zAD rfl|(apply zA5;exact rfl;(with_reducible exact fn_0))|(apply zAi;exact rfl;(with_reducible exact zAk))|exact zAq rfl rfl|exact zAo rfl rfl|exact zBM rfl rfl|(apply w1;exact rfl;exact rfl)|(apply zAQ;exact rfl)|apply zAJ|apply zAT|apply zAN|apply en_r|apply eb_r
          all_goals try omega
          all_goals rfl
      · have hli : ¬ (i : Int) < x.kids:=by omega
        have e : i = ks.length:=by omega
        subst e
        rw [List.drop_length,zC6] at hi2
        rw [← hi2,if_pos rfl]
        have hke:=zIb n ks
        repeat' first | apply en_n|apply zAH|apply zAC|apply zAF|apply w0|(apply zCJ;exact rfl;exact rfl;first|assumption|omega)|(refine zC8 ?_)|(refine zE5 ?_)|exact zGK|(refine RV_d rfl ?_ ?_)|(with_reducible exact rfl)|apply ay (hd:=rfl)|exact zAE rfl|exact zAD rfl|(apply zAU;exact rfl)|apply zAN|apply zAu|apply en_e|apply eb_e
        all_goals first
          | rfl
          | (show i64 _ = i64 _;congr 1;rw [hke,hsz];omega)
    · rw [if_pos he,if_neg he]
      refine zLJ Tryz.func95 rfl Tryz.ntmps95 Tryz.results95 rfl ?_
      intro wb St0
      repeat' first | apply en_n|apply zAH|apply zAC|apply zAF|apply w0|(apply zCT;exact rfl;exact rfl;first|assumption|omega)|(refine zC8 ?_)|(refine zE5 ?_)|exact zGK|(refine RV_d rfl ?_ ?_)|(with_reducible exact rfl)|exact zA8 rfl|(refine zA6 [0] [0] rfl rfl zJV (hc) rfl ?_ rfl (by decide) rfl rfl rfl rfl;(repeat (refine zAI rfl ?_));exact zAM)|apply ay (hd:=rfl)|exact zAE rfl|exact zAD rfl|(apply zAQ;exact rfl)|apply zAN|apply en_r
      all_goals rfl
end Go.Proofs.YtblomnkamngnbaaGreatDoor
