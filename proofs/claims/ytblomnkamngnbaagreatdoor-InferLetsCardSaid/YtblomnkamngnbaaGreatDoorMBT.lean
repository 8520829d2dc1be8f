/- Texts of this claim, merged: RefE. -/
import Derived.Test.YtblomnkamngnbaaGreatDoorMBS
namespace Go.Proofs.YtblomnkamngnbaaGreatDoor
open Go.Sx Go.RowKit
theorem zN1 : zAO Tryz.prog 11 = true:=by kernel_rfl
theorem zED : zAO Tryz.prog 13 = true:=by kernel_rfl
theorem zF7 : zAO Tryz.prog 14 = true:=by kernel_rfl
def txG (n : Nd) : Bool:=decide (n.text.length ≤ 60)
def fewG (s : Sg) : Bool:=decide (s.ty.length ≤ 40) && decide (s.name.length ≤ 60) && s.ty.all txG
def fewF (E : List Sg) (L : List Nd) : Bool:=(E.take 31).all fewG && (L.take 61).all txG && decide (E.length ≤ 30) && decide (L.length ≤ 60)
theorem zQ1 {E : List Sg} {L : List Nd} (h : fewF E L = true) : E.length ≤ 30 ∧ L.length ≤ 60 ∧ (∀ s ∈ E,s.ty.length ≤ 40 ∧ s.name.length ≤ 60 ∧ ∀ n ∈ s.ty,n.text.length ≤ 60) ∧ ∀ n ∈ L,n.text.length ≤ 60:=by
  simp only [fewF,Bool.and_eq_true,decide_eq_true_eq] at h
  obtain ⟨⟨⟨h1,h2⟩,h3⟩,h4⟩:=h
  rw [List.take_of_length_le (by omega),List.all_eq_true] at h1
  rw [List.take_of_length_le (by omega),List.all_eq_true] at h2
  refine ⟨h3,h4,fun s hs=>?_,fun n hn=>of_decide_eq_true (h2 n hn)⟩
  have h5:=h1 s hs
  simp only [fewG,Bool.and_eq_true,decide_eq_true_eq,List.all_eq_true] at h5
  exact ⟨h5.1.1,h5.1.2,fun n hn=>of_decide_eq_true (h5.2 n hn)⟩
theorem zKn {α : Type} {l : List α} {p : α → Bool} {i : Nat} {x : α} (h : l[i]? = some x) : (l.drop i).all p = (p x && (l.drop (i + 1)).all p):=by
  obtain ⟨hi,rfl⟩:=List.getElem?_eq_some_iff.1 h
  rw [List.drop_eq_getElem_cons hi,List.all_cons]
theorem zNR {α : Type} {l : List α} {n i : Nat} {x : α} (h : l[i]? = some x) (hi : i < n) : (l.take n)[i]? = some x:=by rw [List.getElem?_take,if_pos hi,h]
attribute [local irreducible] zAO Program.underlying Ylds zA3 alex zBY zBN awp zAm zBT zBe zAx zBA zBP zA2 zBR zBX zBa zBq zBI
theorem zSc (E : List Sg) (hE : E.length ≤ 1000000) : zAm Tryz.prog 11 [sigs E] (sigs E):=by
  refine zAd Tryz.func11 rfl Tryz.ntmps11 Tryz.results11 rfl ?_
  intro wb St0
  repeat' first | apply en_n|apply zAH|apply zAC|apply zAF|apply w0|(apply zTH (hd:=rfl) (hro:=rfl);(with_reducible exact zG1);(with_reducible exact zCL);(with_reducible exact zPP);exact rfl)|(apply aApp (hd:=rfl) (hro:=rfl);exact rfl;exact rfl;(first|exact zAn rfl|exact Co_bb rfl rfl rfl|exact Co_nn rfl);(first|exact rfl|(simp;done));exact rfl;(with_reducible exact zG1);(with_reducible exact zCL);(with_reducible exact zTS);(with_reducible exact zRF);(first|exact zCc (fun _=>rfl)|exact zCP rfl))|apply ay (hd:=rfl)|exact zAE rfl|exact zAY rfl|exact zAj rfl|apply zAN|apply zAP
  all_goals first | (simp only [List.length_map];omega) | skip
  exact ⟨_,_,_,rfl,by simp,by rw [List.take_of_length_le (by simp)];rfl⟩
theorem zJR (L : List Nd) (hL : L.length ≤ 1000000) : zAm Tryz.prog 13 [zAc L] (zAc L):=by
  refine zAd Tryz.func13 rfl Tryz.ntmps13 Tryz.results13 rfl ?_
  intro wb St0
  repeat' first | apply en_n|apply zAH|apply zAC|apply zAF|apply w0|(apply zTH (hd:=rfl) (hro:=rfl);(with_reducible exact zBl);(with_reducible exact zAa);(with_reducible exact zDr);exact rfl)|(apply aApp (hd:=rfl) (hro:=rfl);exact rfl;exact rfl;(first|exact zAn rfl|exact Co_bb rfl rfl rfl|exact Co_nn rfl);(first|exact rfl|(simp;done));exact rfl;(with_reducible exact zBl);(with_reducible exact zAa);(with_reducible exact zE1);(with_reducible exact zDi);(first|exact zCc (fun _=>rfl)|exact zCP rfl))|apply ay (hd:=rfl)|exact zAE rfl|exact zAY rfl|exact zAj rfl|apply zAN|apply zAP
  all_goals first | (simp only [List.length_map];omega) | skip
  exact ⟨_,_,_,rfl,by simp,by rw [List.take_of_length_le (by simp)];rfl⟩
theorem zSb (s : List UInt8) (hs : s.length ≤ 9223372036854775807) : zAm Tryz.prog 14 [str s] (bl (zD1 s)):=by
  have h:=zOk s hs
  refine zAd Tryz.func14 rfl Tryz.ntmps14 Tryz.results14 rfl ?_
  intro wb St0
  repeat' first | apply en_n|apply zAH|apply zAC|apply zAF|apply w0|(refine zAX zQe h (zAZ rfl zAG))|apply ay (hd:=rfl)|exact zAE rfl|exact zAD rfl|apply zAN|apply zAP|(apply res1;exact rfl)
  rfl
set_option maxHeartbeats 4000000 in
theorem zLI (E : List Sg) (L : List Nd) : zAm Tryz.prog 6 [sigs E,zAc L] (bl (fewF E L)):=by
  refine zAd Tryz.func6 rfl Tryz.ntmps6 Tryz.results6 rfl ?_
  intro wb St0
  repeat' first | apply en_n|apply zAH|apply zAC|apply zAF|apply w0|apply ay (hd:=rfl)|exact zAD rfl|apply zAJ
  refine zAs (α:=Nat) (fun i=>i ≤ (E.take 31).length ∧ (E.take 31).all fewG = ((E.take 31).drop i).all fewG) (fun i=>[(0,.d (sigs E)),(1,.d (zAc L)),(5,.d (i64 (i : Int)))]) (fun _=>[]) (fun i=>(E.take 31).length - i) 0 ⟨Nat.zero_le _,rfl⟩
    (zAL (zAA rfl (zAA rfl (Le_d rfl rfl zAW))) zAK rfl rfl) ?_
  rintro i ⟨hi1,hi2⟩
  have hl31 : (E.take 31).length = min 31 E.length:=List.length_take
  rcases Nat.lt_or_ge i (E.take 31).length with hlt | hge
  · obtain ⟨s,hs⟩ : ∃ s,E[i]? = some s:=⟨_,List.getElem?_eq_getElem (by omega)⟩
    have hs0 : E[((i : Nat) : Int).toNat]? = some s:=by rw [Int.toNat_natCast];exact hs
    have hli : (i : Int) < (E.length : Int):=by omega
    have hl3 : (i : Int) < 31:=by omega
    rw [zKn (zNR hs (by omega))] at hi2
    have no : fewG s = false → fewF E L = false:=fun h=>by rw [fewF,hi2,h];rfl
    by_cases c1 : s.ty.length ≤ 40
    case neg =>
      have : (s.ty.length : Int) > 40:=by omega
      rw [no (by rw [fewG,decide_eq_false c1];rfl)]
      clear no hi2
      skip
      repeat' first | apply en_n|apply zAH|apply zAC|apply zAF|apply w0|(apply k0u (hd:=rfl);exact rfl;exact rfl)|(apply zBK;exact rfl;exact rfl;first|assumption|omega)|(apply zE0;exact rfl;exact rfl;first|assumption|omega)|(apply aJ (hd:=rfl);(first|exact zAn rfl|exact Co_bb rfl rfl rfl|exact Co_nn rfl);exact rfl;(with_reducible exact zCL);assumption;omega;exact fun _=>rfl)|apply ay (hd:=rfl)|exact zAE rfl|exact zAD rfl|(apply zA5;exact rfl;(with_reducible exact fg_1))|(apply zAi;exact rfl;(with_reducible exact zAg))|(apply zAr;exact rfl;(with_reducible first|exact zEM|exact zA7))|exact zAq rfl rfl|(apply w1;exact rfl;exact rfl)|(apply zAQ;exact rfl)|apply zAJ|apply zAT|apply zAN|apply en_r|apply eb_r|apply zAP|(apply res1;exact rfl)
      all_goals first | omega | rfl
    by_cases c2 : s.name.length ≤ 60
    case neg =>
      have : (s.name.length : Int) > 60:=by omega
      have : ¬ (s.ty.length : Int) > 40:=by omega
      rw [no (by rw [fewG,decide_eq_false c2,Bool.and_false];rfl)]
      clear no hi2
      skip
      repeat' first | apply en_n|apply zAH|apply zAC|apply zAF|apply w0|(apply zBK;exact rfl;exact rfl;first|assumption|omega)|(apply zE0;exact rfl;exact rfl;first|assumption|omega)|(apply zDw;exact rfl;exact rfl;first|assumption|omega)|(apply zC2;exact rfl;with_reducible exact ustr)|(apply aJ (hd:=rfl);(first|exact zAn rfl|exact Co_bb rfl rfl rfl|exact Co_nn rfl);exact rfl;(with_reducible exact zCL);assumption;omega;exact fun _=>rfl)|apply ay (hd:=rfl)|exact zAE rfl|exact zAD rfl|(apply zA5;exact rfl;(with_reducible first|exact fg_0|exact fg_1))|(apply zAi;exact rfl;(with_reducible first|exact zAg|exact zA4))|(apply zAr;exact rfl;(with_reducible first|exact zEM|exact zA7))|exact zAq rfl rfl|exact zAo rfl rfl|(apply w1;exact rfl;exact rfl)|(apply zAQ;exact rfl)|apply zAJ|apply zAT|apply zAN|apply en_r|apply eb_r|apply zAP|(apply res1;exact rfl)
      all_goals first | omega | rfl
    have d1 : ¬ (s.ty.length : Int) > 40:=by omega
    have d2 : ¬ (s.name.length : Int) > 60:=by omega
    have eg : fewG s = s.ty.all txG:=by rw [fewG,decide_eq_true c1,decide_eq_true c2];rfl
    rw [eg] at hi2 no
    skip
    repeat' first | apply en_n|apply zAH|apply zAC|apply zAF|apply w0|(apply zBK;exact rfl;exact rfl;first|assumption|omega)|(apply zDw;exact rfl;exact rfl;first|assumption|omega)|(apply zC2;exact rfl;with_reducible exact ustr)|(apply aJ (hd:=rfl);(first|exact zAn rfl|exact Co_bb rfl rfl rfl|exact Co_nn rfl);exact rfl;(with_reducible exact zCL);assumption;omega;exact fun _=>rfl)|apply ay (hd:=rfl)|exact zAE rfl|exact zAD rfl|(apply zA5;exact rfl;(with_reducible first|exact fg_0|exact fg_1))|(apply zAi;exact rfl;(with_reducible first|exact zAg|exact zA4))|(apply zAr;exact rfl;(with_reducible first|exact zEM|exact zA7))|exact zAq rfl rfl|exact zAo rfl rfl|(apply w1;exact rfl;exact rfl)|(apply zAQ;exact rfl)|(apply zAU;exact rfl)|apply zAJ|apply zAT
    all_goals first | omega | skip
    refine zAs (α:=Nat) (fun j=>j ≤ s.ty.length ∧ s.ty.all txG = (s.ty.drop j).all txG) (fun j=>[(0,.d (sigs E)),(1,.d (zAc L)),(5,.d (i64 (i : Int))),(6,.d (i64 (j : Int)))]) (fun _=>[]) (fun j=>s.ty.length - j) 0 ⟨Nat.zero_le _,rfl⟩
      (zAL (zAA rfl (zAA rfl (zAA rfl (Le_d rfl rfl zAW)))) zAK rfl rfl) ?_
    rintro j ⟨hj1,hj2⟩
    rcases Nat.lt_or_ge j s.ty.length with hjlt | hjge
    · obtain ⟨n,hn⟩ : ∃ n,s.ty[j]? = some n:=⟨_,List.getElem?_eq_getElem hjlt⟩
      have hn0 : s.ty[((j : Nat) : Int).toNat]? = some n:=by rw [Int.toNat_natCast];exact hn
      have hlj : (j : Int) < (s.ty.length : Int):=by omega
      rw [zKn hn] at hj2
      by_cases c3 : n.text.length ≤ 60
      · have d3 : ¬ (n.text.length : Int) > 60:=by omega
        rw [show txG n = true from decide_eq_true c3,Bool.true_and] at hj2
        clear no hi2 eg
        skip
        repeat' first | apply en_n|apply zAH|apply zAC|apply zAF|apply w0|(apply zBK;exact rfl;exact rfl;first|assumption|omega)|(apply zDw;exact rfl;exact rfl;first|assumption|omega)|(apply zC2;exact rfl;with_reducible exact ustr)|(apply aJ (hd:=rfl);(first|exact zAn rfl|exact Co_bb rfl rfl rfl|exact Co_nn rfl);exact rfl;(with_reducible first|exact zCL|exact zAa);assumption;omega;exact fun _=>rfl)|apply ay (hd:=rfl)|exact zAE rfl|exact zAD rfl|(apply zA5;exact rfl;(with_reducible first|exact fg_1|exact fn_1))|(apply zAi;exact rfl;(with_reducible first|exact zAg|exact zA4))|(apply zAr;exact rfl;(with_reducible exact zA7))|(apply zBG;exact rfl;exact rfl)|(apply zAQ;exact rfl)|(apply zAU;exact rfl)|apply zAJ|apply zAT|apply eb_n
        all_goals first | omega | skip
        all_goals exact ⟨j + 1,⟨by omega,hj2⟩,by omega,zAL (zAA rfl (zAA rfl (zAA rfl (zAA rfl zAW)))) zAK rfl rfl⟩
      · have d3 : (n.text.length : Int) > 60:=by omega
        rw [no (by rw [hj2,show txG n = false from decide_eq_false c3];rfl)]
        clear no hi2 eg hj2
        skip
        repeat' first | apply en_n|apply zAH|apply zAC|apply zAF|apply w0|(apply zBK;exact rfl;exact rfl;first|assumption|omega)|(apply zE0;exact rfl;exact rfl;first|assumption|omega)|(apply zC2;exact rfl;with_reducible exact ustr)|(apply aJ (hd:=rfl);(first|exact zAn rfl|exact Co_bb rfl rfl rfl|exact Co_nn rfl);exact rfl;(with_reducible first|exact zCL|exact zAa);assumption;omega;exact fun _=>rfl)|apply ay (hd:=rfl)|exact zAE rfl|exact zAD rfl|(apply zA5;exact rfl;(with_reducible first|exact fg_1|exact fn_1))|(apply zAi;exact rfl;(with_reducible first|exact zAg|exact zA4))|(apply zAr;exact rfl;(with_reducible exact zA7))|(apply zAQ;exact rfl)|apply zAJ|apply zAT|apply zAN|apply en_r|apply eb_r|apply zAP|(apply res1;exact rfl)
        all_goals first | omega | rfl
    · have hlj : ¬ (j : Int) < (s.ty.length : Int):=by omega
      rw [List.drop_of_length_le hjge] at hj2
      rw [hj2] at hi2
      clear no eg
      skip
      repeat' first | apply en_n|apply zAH|apply zAC|apply zAF|apply w0|(apply zCJ;exact rfl;exact rfl;first|assumption|omega)|(apply aJ (hd:=rfl);(first|exact zAn rfl|exact Co_bb rfl rfl rfl|exact Co_nn rfl);exact rfl;(with_reducible exact zCL);assumption;omega;exact fun _=>rfl)|apply ay (hd:=rfl)|exact zAE rfl|exact zAD rfl|(apply zA5;exact rfl;(with_reducible exact fg_1))|(apply zAi;exact rfl;(with_reducible exact zAg))|(apply zAr;exact rfl;(with_reducible exact zA7))|(apply zBG;exact rfl;exact rfl)|(apply zAU;exact rfl)|apply zAu|apply en_e|apply eb_n|apply eb_e
      all_goals first | omega | skip
      all_goals exact ⟨i + 1,⟨by omega,by simpa using hi2⟩,by omega,zAL (zAA rfl (zAA rfl (zAA rfl zAW))) zAK rfl rfl⟩
  · rw [List.drop_of_length_le hge] at hi2
    have e1 : fewF E L = ((L.take 61).all txG && decide (E.length ≤ 30) && decide (L.length ≤ 60)):=by rw [fewF,hi2];rfl
    have hc : ¬ (i : Int) < (E.length : Int) ∨ ((i : Int) < (E.length : Int) ∧ ¬ (i : Int) < 31):=by omega
    rw [e1]
    clear e1 hi2
    have hl61 : (L.take 61).length = min 61 L.length:=List.length_take
    rcases hc with hc | ⟨hc,hc3⟩
    all_goals
      skip
      repeat' first | apply en_n|apply zAH|apply zAC|apply zAF|apply w0|(apply k1u (hd:=rfl);exact rfl;exact rfl)|(apply zBK;exact rfl;exact rfl;first|assumption|omega)|(apply zCJ;exact rfl;exact rfl;first|assumption|omega)|apply ay (hd:=rfl)|exact zAE rfl|exact zAD rfl|(apply zAr;exact rfl;(with_reducible exact zEM))|exact zAq rfl rfl|exact zAo rfl rfl|(apply w1;exact rfl;exact rfl)|(apply zAU;exact rfl)|apply zAJ|apply zAu|apply en_e|apply eb_e
      refine zAs (α:=Nat) (fun j=>j ≤ (L.take 61).length ∧ (L.take 61).all txG = ((L.take 61).drop j).all txG) (fun j=>[(0,.d (sigs E)),(1,.d (zAc L)),(7,.d (i64 (j : Int)))]) (fun _=>[]) (fun j=>(L.take 61).length - j) 0 ⟨Nat.zero_le _,rfl⟩
        (zAL (zAA rfl (zAA rfl (Le_d rfl rfl zAW))) zAK rfl rfl) ?_
      rintro j ⟨hj1,hj2⟩
      rcases Nat.lt_or_ge j (L.take 61).length with hjlt | hjge
      · obtain ⟨n,hn⟩ : ∃ n,L[j]? = some n:=⟨_,List.getElem?_eq_getElem (by omega)⟩
        have hn0 : L[((j : Nat) : Int).toNat]? = some n:=by rw [Int.toNat_natCast];exact hn
        have hlj : (j : Int) < (L.length : Int):=by omega
        have hl6 : (j : Int) < 61:=by omega
        rw [zKn (zNR hn (by omega))] at hj2
        by_cases c3 : n.text.length ≤ 60
        · have d3 : ¬ (n.text.length : Int) > 60:=by omega
          rw [show txG n = true from decide_eq_true c3,Bool.true_and] at hj2
          skip
          repeat' first | apply en_n|apply zAH|apply zAC|apply zAF|apply w0|(apply zBK;exact rfl;exact rfl;first|assumption|omega)|(apply zDw;exact rfl;exact rfl;first|assumption|omega)|(apply zC2;exact rfl;with_reducible exact ustr)|(apply aJ (hd:=rfl);(first|exact zAn rfl|exact Co_bb rfl rfl rfl|exact Co_nn rfl);exact rfl;(with_reducible exact zAa);assumption;omega;exact fun _=>rfl)|apply ay (hd:=rfl)|exact zAE rfl|exact zAD rfl|(apply zA5;exact rfl;(with_reducible exact fn_1))|(apply zAi;exact rfl;(with_reducible exact zA4))|(apply zAr;exact rfl;(with_reducible exact zA7))|(apply zBG;exact rfl;exact rfl)|exact zAq rfl rfl|(apply w1;exact rfl;exact rfl)|(apply zAQ;exact rfl)|(apply zAU;exact rfl)|apply zAJ|apply zAT|apply eb_n
          all_goals first | omega | skip
          all_goals exact ⟨j + 1,⟨by omega,hj2⟩,by omega,zAL (zAA rfl (zAA rfl (zAA rfl zAW))) zAK rfl rfl⟩
        · have d3 : (n.text.length : Int) > 60:=by omega
          rw [show txG n = false from decide_eq_false c3,Bool.false_and] at hj2
          rw [hj2]
          clear hj2
          skip
          repeat' first | apply en_n|apply zAH|apply zAC|apply zAF|apply w0|(apply zBK;exact rfl;exact rfl;first|assumption|omega)|(apply zE0;exact rfl;exact rfl;first|assumption|omega)|(apply zC2;exact rfl;with_reducible exact ustr)|(apply aJ (hd:=rfl);(first|exact zAn rfl|exact Co_bb rfl rfl rfl|exact Co_nn rfl);exact rfl;(with_reducible exact zAa);assumption;omega;exact fun _=>rfl)|apply ay (hd:=rfl)|exact zAE rfl|exact zAD rfl|(apply zA5;exact rfl;(with_reducible exact fn_1))|(apply zAi;exact rfl;(with_reducible exact zA4))|(apply zAr;exact rfl;(with_reducible exact zA7))|exact zAq rfl rfl|(apply w1;exact rfl;exact rfl)|(apply zAQ;exact rfl)|apply zAJ|apply zAT|apply zAN|apply en_r|apply eb_r|apply zAP|(apply res1;exact rfl)
          all_goals first | omega | rfl
      · rw [List.drop_of_length_le hjge] at hj2
        rw [hj2]
        clear hj2
        have hd : ¬ (j : Int) < (L.length : Int) ∨ ((j : Int) < (L.length : Int) ∧ ¬ (j : Int) < 61):=by omega
        rcases hd with hd | ⟨hd,hd3⟩
        all_goals
          by_cases c4 : (E.length : Int) ≤ 30 <;> by_cases c5 : (L.length : Int) ≤ 60
        all_goals skip
        repeat' first | apply en_n|apply zAH|apply zAC|apply zAF|apply w0|(apply k1u (hd:=rfl);exact rfl;exact rfl)|(apply zBK;exact rfl;exact rfl;first|assumption|omega)|(apply zCJ;exact rfl;exact rfl;first|assumption|omega)|(apply zV9;exact rfl;exact rfl;first|assumption|omega)|(apply zWA;exact rfl;exact rfl;first|assumption|omega)|(apply zE0;exact rfl;exact rfl;first|assumption|omega)|(apply zC2;exact rfl;with_reducible exact ustr)|(apply aI (hd:=rfl);(first|exact zAn rfl|exact Co_bb rfl rfl rfl|exact Co_nn rfl);exact rfl;(with_reducible exact zAa);exact fun _=>rfl;rotate_left;intro v hv;rotate_right)|apply ay (hd:=rfl)|exact zAE rfl|exact zAD rfl|(apply zA5;exact rfl;(with_reducible exact fn_1))|(apply zAi;exact rfl;(with_reducible exact zA4))|(apply zAr;exact rfl;(with_reducible first|exact zEM|exact zA7))|exact zAq rfl rfl|exact zAo rfl rfl|(apply w1;exact rfl;exact rfl)|(apply zAQ;exact rfl)|(apply zAU;exact rfl)|apply zAJ|apply zAT|apply zAN|apply zAu|apply en_r|apply en_e|apply eb_r|apply eb_e|apply zAP|(apply res1;exact rfl)
        all_goals first | omega | (refine zD6 ?_;simp;omega)
end Go.Proofs.YtblomnkamngnbaaGreatDoor
