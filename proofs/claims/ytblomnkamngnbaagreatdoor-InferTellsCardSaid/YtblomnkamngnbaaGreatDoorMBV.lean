/- Texts of this claim, merged: RefE, InfYD. -/
import Derived.Test.YtblomnkamngnbaaGreatDoorMBN
import Derived.Test.YtblomnkamngnbaaGreatDoorMBU
namespace Go.Proofs.YtblomnkamngnbaaGreatDoor
open Go.Sx Go.RowKit
theorem zNP : zAT Tryz.prog 11 = true:=by kernel_rfl
theorem zJK : zAT Tryz.prog 13 = true:=by kernel_rfl
def txG (n : Nd) : Bool:=decide (n.text.length ≤ 60)
def fewG (s : Sg) : Bool:=decide (s.ty.length ≤ 40) && decide (s.name.length ≤ 60) && s.ty.all txG
def fewF (E : List Sg) (L : List Nd) : Bool:=(E.take 31).all fewG && (L.take 61).all txG && decide (E.length ≤ 30) && decide (L.length ≤ 60)
theorem zTV {E : List Sg} {L : List Nd} (h : fewF E L = true) : E.length ≤ 30 ∧ L.length ≤ 60 ∧ (∀ s ∈ E,s.ty.length ≤ 40 ∧ s.name.length ≤ 60 ∧ ∀ n ∈ s.ty,n.text.length ≤ 60) ∧ ∀ n ∈ L,n.text.length ≤ 60:=by
  simp only [fewF,Bool.and_eq_true,decide_eq_true_eq] at h
  obtain ⟨⟨⟨h1,h2⟩,h3⟩,h4⟩:=h
  rw [List.take_of_length_le (by omega),List.all_eq_true] at h1
  rw [List.take_of_length_le (by omega),List.all_eq_true] at h2
  refine ⟨h3,h4,fun s hs=>?_,fun n hn=>of_decide_eq_true (h2 n hn)⟩
  have h5:=h1 s hs
  simp only [fewG,Bool.and_eq_true,decide_eq_true_eq,List.all_eq_true] at h5
  exact ⟨h5.1.1,h5.1.2,fun n hn=>of_decide_eq_true (h5.2 n hn)⟩
theorem zUu {L : List Nd} (h : okT L = true) : ckT L = 0:=by unfold ckT;rw [if_pos h]
theorem zI8 : ∀ (m : Nat) (T : Tr),T.sz ≤ m → ∀ n ∈ (zBl T).2,n ∈ T.fl
  | 0,T,h=>by have:=zBS T;omega
  | m + 1,.mk x ks,h=>by
    match ks,h with
    | [a,b],h =>
      by_cases hx : x.text = arrT
      · rw [zDy hx]
        rw [Tr.sz,szL,szL,szL] at h
        intro n hn
        have:=zI8 m b (by omega) n hn
        rw [Tr.fl,flL,flL,flL];simp [this]
      · rw [zEa hx];exact fun n hn=>hn
    | [],_=>intro n hn;rw [zBl] at hn;exact hn;rintro _ _ _ h;cases h
    | [_],_=>intro n hn;rw [zBl] at hn;exact hn;rintro _ _ _ h;cases h
    | _ :: _ :: _ :: _,_=>intro n hn;rw [zBl] at hn;exact hn;rintro _ _ _ h;cases h
theorem zN7 {t : List Nd} (h : ckT t = 0) : ∀ n ∈ (zCG t).2,n ∈ t:=by
  obtain ⟨T,rfl,hw,_,_⟩:=zIf h
  rw [zD6 hw h];exact zI8 _ T (Nat.le_refl _)
theorem zKO {α : Type} {l : List α} {p : α → Bool} {i : Nat} {x : α} (h : l[i]? = some x) : (l.drop i).all p = (p x && (l.drop (i + 1)).all p):=by
  obtain ⟨hi,rfl⟩:=List.getElem?_eq_some_iff.1 h
  rw [List.drop_eq_getElem_cons hi,List.all_cons]
theorem zMq {α : Type} {l : List α} {n i : Nat} {x : α} (h : l[i]? = some x) (hi : i < n) : (l.take n)[i]? = some x:=by rw [List.getElem?_take,if_pos hi,h]
attribute [local irreducible] zAT Program.underlying Ylds zBA alex zBe zBP awp zAj zBZ zBk zA2 zBH zBR zA8 zBV zBb zBf zBu zBO
theorem zRc (E : List Sg) (hE : E.length ≤ 1000000) : zAj Tryz.prog 11 [sigs E] (sigs E):=by
  refine zAd Tryz.func11 rfl Tryz.ntmps11 Tryz.results11 rfl ?_
  intro wb St0
  repeat' first | apply en_n|apply zAH|apply zAB|apply zAF|apply w0|(apply zMY (hd:=rfl) (hro:=rfl);(with_reducible exact zNY);(with_reducible exact zCL);(with_reducible exact zT1);exact rfl)|(apply aApp (hd:=rfl) (hro:=rfl);exact rfl;exact rfl;(first|exact zAk rfl|exact Co_bb rfl rfl rfl|exact Co_nn rfl);(first|exact rfl|(simp;done));exact rfl;(with_reducible exact zNY);(with_reducible exact zCL);(with_reducible exact zT6);(with_reducible exact zTi);(first|exact zCF (fun _=>rfl)|exact zCE rfl))|apply ay (hd:=rfl)|exact zAE rfl|exact zAb rfl|exact zAm rfl|apply zAM|apply zAJ
  all_goals first | (simp only [List.length_map];omega) | skip
  exact ⟨_,_,_,rfl,by simp,by rw [List.take_of_length_le (by simp)];rfl⟩
theorem zOD (L : List Nd) (hL : L.length ≤ 1000000) : zAj Tryz.prog 13 [zAc L] (zAc L):=by
  refine zAd Tryz.func13 rfl Tryz.ntmps13 Tryz.results13 rfl ?_
  intro wb St0
  repeat' first | apply en_n|apply zAH|apply zAB|apply zAF|apply w0|(apply zMY (hd:=rfl) (hro:=rfl);(with_reducible exact zBd);(with_reducible exact zAW);(with_reducible exact zDQ);exact rfl)|(apply aApp (hd:=rfl) (hro:=rfl);exact rfl;exact rfl;(first|exact zAk rfl|exact Co_bb rfl rfl rfl|exact Co_nn rfl);(first|exact rfl|(simp;done));exact rfl;(with_reducible exact zBd);(with_reducible exact zAW);(with_reducible exact zER);(with_reducible exact zDP);(first|exact zCF (fun _=>rfl)|exact zCE rfl))|apply ay (hd:=rfl)|exact zAE rfl|exact zAb rfl|exact zAm rfl|apply zAM|apply zAJ
  all_goals first | (simp only [List.length_map];omega) | skip
  exact ⟨_,_,_,rfl,by simp,by rw [List.take_of_length_le (by simp)];rfl⟩
set_option maxHeartbeats 4000000 in
theorem zPK (E : List Sg) (L : List Nd) : zAj Tryz.prog 6 [sigs E,zAc L] (bl (fewF E L)):=by
  refine zAd Tryz.func6 rfl Tryz.ntmps6 Tryz.results6 rfl ?_
  intro wb St0
  repeat' first | apply en_n|apply zAH|apply zAB|apply zAF|apply w0|apply ay (hd:=rfl)|exact zAC rfl|apply zAI
  refine zAr (α:=Nat) (fun i=>i ≤ (E.take 31).length ∧ (E.take 31).all fewG = ((E.take 31).drop i).all fewG) (fun i=>[(0,.d (sigs E)),(1,.d (zAc L)),(5,.d (i64 (i : Int)))]) (fun _=>[]) (fun i=>(E.take 31).length - i) 0 ⟨Nat.zero_le _,rfl⟩
    (zAO (zAA rfl (zAA rfl (Le_d rfl rfl zAa))) zAN rfl rfl) ?_
  rintro i ⟨hi1,hi2⟩
  have hl31 : (E.take 31).length = min 31 E.length:=List.length_take
  rcases Nat.lt_or_ge i (E.take 31).length with hlt | hge
  · obtain ⟨s,hs⟩ : ∃ s,E[i]? = some s:=⟨_,List.getElem?_eq_getElem (by omega)⟩
    have hs0 : E[((i : Nat) : Int).toNat]? = some s:=by rw [Int.toNat_natCast];exact hs
    have hli : (i : Int) < (E.length : Int):=by omega
    have hl3 : (i : Int) < 31:=by omega
    rw [zKO (zMq hs (by omega))] at hi2
    have no : fewG s = false → fewF E L = false:=fun h=>by rw [fewF,hi2,h];rfl
    by_cases c1 : s.ty.length ≤ 40
    case neg =>
      have : (s.ty.length : Int) > 40:=by omega
      rw [no (by rw [fewG,decide_eq_false c1];rfl)]
      clear no hi2
      skip
      repeat' first | apply en_n|apply zAH|apply zAB|apply zAF|apply w0|(apply k0u (hd:=rfl);exact rfl;exact rfl)|(apply zA5;exact rfl;exact rfl;first|assumption|omega)|(apply zEo;exact rfl;exact rfl;first|assumption|omega)|(apply aJ (hd:=rfl);(first|exact zAk rfl|exact Co_bb rfl rfl rfl|exact Co_nn rfl);exact rfl;(with_reducible exact zCL);assumption;omega;exact fun _=>rfl)|apply ay (hd:=rfl)|exact zAE rfl|exact zAC rfl|(apply zAy;exact rfl;(with_reducible exact fg_1))|(apply zAg;exact rfl;(with_reducible exact zAn))|(apply zAl;exact rfl;(with_reducible first|exact zEC|exact zA0))|exact zAi rfl rfl|(apply w1;exact rfl;exact rfl)|(apply zAK;exact rfl)|apply zAI|apply zAP|apply zAM|apply en_r|apply eb_r|apply zAJ|(apply res1;exact rfl)
      all_goals first | omega | rfl
    by_cases c2 : s.name.length ≤ 60
    case neg =>
      have : (s.name.length : Int) > 60:=by omega
      have : ¬ (s.ty.length : Int) > 40:=by omega
      rw [no (by rw [fewG,decide_eq_false c2,Bool.and_false];rfl)]
      clear no hi2
      skip
      repeat' first | apply en_n|apply zAH|apply zAB|apply zAF|apply w0|(apply zA5;exact rfl;exact rfl;first|assumption|omega)|(apply zEo;exact rfl;exact rfl;first|assumption|omega)|(apply zDo;exact rfl;exact rfl;first|assumption|omega)|(apply zDY;exact rfl;with_reducible exact ustr)|(apply aJ (hd:=rfl);(first|exact zAk rfl|exact Co_bb rfl rfl rfl|exact Co_nn rfl);exact rfl;(with_reducible exact zCL);assumption;omega;exact fun _=>rfl)|apply ay (hd:=rfl)|exact zAE rfl|exact zAC rfl|(apply zAy;exact rfl;(with_reducible first|exact fg_0|exact fg_1))|(apply zAg;exact rfl;(with_reducible first|exact zAn|exact zAv))|(apply zAl;exact rfl;(with_reducible first|exact zEC|exact zA0))|exact zAi rfl rfl|exact zAh rfl rfl|(apply w1;exact rfl;exact rfl)|(apply zAK;exact rfl)|apply zAI|apply zAP|apply zAM|apply en_r|apply eb_r|apply zAJ|(apply res1;exact rfl)
      all_goals first | omega | rfl
    have d1 : ¬ (s.ty.length : Int) > 40:=by omega
    have d2 : ¬ (s.name.length : Int) > 60:=by omega
    have eg : fewG s = s.ty.all txG:=by rw [fewG,decide_eq_true c1,decide_eq_true c2];rfl
    rw [eg] at hi2 no
    skip
    repeat' first | apply en_n|apply zAH|apply zAB|apply zAF|apply w0|(apply zA5;exact rfl;exact rfl;first|assumption|omega)|(apply zDo;exact rfl;exact rfl;first|assumption|omega)|(apply zDY;exact rfl;with_reducible exact ustr)|(apply aJ (hd:=rfl);(first|exact zAk rfl|exact Co_bb rfl rfl rfl|exact Co_nn rfl);exact rfl;(with_reducible exact zCL);assumption;omega;exact fun _=>rfl)|apply ay (hd:=rfl)|exact zAE rfl|exact zAC rfl|(apply zAy;exact rfl;(with_reducible first|exact fg_0|exact fg_1))|(apply zAg;exact rfl;(with_reducible first|exact zAn|exact zAv))|(apply zAl;exact rfl;(with_reducible first|exact zEC|exact zA0))|exact zAi rfl rfl|exact zAh rfl rfl|(apply w1;exact rfl;exact rfl)|(apply zAK;exact rfl)|(apply zAQ;exact rfl)|apply zAI|apply zAP
    all_goals first | omega | skip
    refine zAr (α:=Nat) (fun j=>j ≤ s.ty.length ∧ s.ty.all txG = (s.ty.drop j).all txG) (fun j=>[(0,.d (sigs E)),(1,.d (zAc L)),(5,.d (i64 (i : Int))),(6,.d (i64 (j : Int)))]) (fun _=>[]) (fun j=>s.ty.length - j) 0 ⟨Nat.zero_le _,rfl⟩
      (zAO (zAA rfl (zAA rfl (zAA rfl (Le_d rfl rfl zAa)))) zAN rfl rfl) ?_
    rintro j ⟨hj1,hj2⟩
    rcases Nat.lt_or_ge j s.ty.length with hjlt | hjge
    · obtain ⟨n,hn⟩ : ∃ n,s.ty[j]? = some n:=⟨_,List.getElem?_eq_getElem hjlt⟩
      have hn0 : s.ty[((j : Nat) : Int).toNat]? = some n:=by rw [Int.toNat_natCast];exact hn
      have hlj : (j : Int) < (s.ty.length : Int):=by omega
      rw [zKO hn] at hj2
      by_cases c3 : n.text.length ≤ 60
      · have d3 : ¬ (n.text.length : Int) > 60:=by omega
        rw [show txG n = true from decide_eq_true c3,Bool.true_and] at hj2
        clear no hi2 eg
        skip
        repeat' first | apply en_n|apply zAH|apply zAB|apply zAF|apply w0|(apply zA5;exact rfl;exact rfl;first|assumption|omega)|(apply zDo;exact rfl;exact rfl;first|assumption|omega)|(apply zDY;exact rfl;with_reducible exact ustr)|(apply aJ (hd:=rfl);(first|exact zAk rfl|exact Co_bb rfl rfl rfl|exact Co_nn rfl);exact rfl;(with_reducible first|exact zCL|exact zAW);assumption;omega;exact fun _=>rfl)|apply ay (hd:=rfl)|exact zAE rfl|exact zAC rfl|(apply zAy;exact rfl;(with_reducible first|exact fg_1|exact fn_1))|(apply zAg;exact rfl;(with_reducible first|exact zAn|exact zAv))|(apply zAl;exact rfl;(with_reducible exact zA0))|(apply zBC;exact rfl;exact rfl)|(apply zAK;exact rfl)|(apply zAQ;exact rfl)|apply zAI|apply zAP|apply eb_n
        all_goals first | omega | skip
        all_goals exact ⟨j + 1,⟨by omega,hj2⟩,by omega,zAO (zAA rfl (zAA rfl (zAA rfl (zAA rfl zAa)))) zAN rfl rfl⟩
      · have d3 : (n.text.length : Int) > 60:=by omega
        rw [no (by rw [hj2,show txG n = false from decide_eq_false c3];rfl)]
        clear no hi2 eg hj2
        skip
        repeat' first | apply en_n|apply zAH|apply zAB|apply zAF|apply w0|(apply zA5;exact rfl;exact rfl;first|assumption|omega)|(apply zEo;exact rfl;exact rfl;first|assumption|omega)|(apply zDY;exact rfl;with_reducible exact ustr)|(apply aJ (hd:=rfl);(first|exact zAk rfl|exact Co_bb rfl rfl rfl|exact Co_nn rfl);exact rfl;(with_reducible first|exact zCL|exact zAW);assumption;omega;exact fun _=>rfl)|apply ay (hd:=rfl)|exact zAE rfl|exact zAC rfl|(apply zAy;exact rfl;(with_reducible first|exact fg_1|exact fn_1))|(apply zAg;exact rfl;(with_reducible first|exact zAn|exact zAv))|(apply zAl;exact rfl;(with_reducible exact zA0))|(apply zAK;exact rfl)|apply zAI|apply zAP|apply zAM|apply en_r|apply eb_r|apply zAJ|(apply res1;exact rfl)
        all_goals first | omega | rfl
    · have hlj : ¬ (j : Int) < (s.ty.length : Int):=by omega
      rw [List.drop_of_length_le hjge] at hj2
      rw [hj2] at hi2
      clear no eg
      skip
      repeat' first | apply en_n|apply zAH|apply zAB|apply zAF|apply w0|(apply zBq;exact rfl;exact rfl;first|assumption|omega)|(apply aJ (hd:=rfl);(first|exact zAk rfl|exact Co_bb rfl rfl rfl|exact Co_nn rfl);exact rfl;(with_reducible exact zCL);assumption;omega;exact fun _=>rfl)|apply ay (hd:=rfl)|exact zAE rfl|exact zAC rfl|(apply zAy;exact rfl;(with_reducible exact fg_1))|(apply zAg;exact rfl;(with_reducible exact zAn))|(apply zAl;exact rfl;(with_reducible exact zA0))|(apply zBC;exact rfl;exact rfl)|(apply zAQ;exact rfl)|apply zAt|apply en_e|apply eb_n|apply eb_e
      all_goals first | omega | skip
      all_goals exact ⟨i + 1,⟨by omega,by simpa using hi2⟩,by omega,zAO (zAA rfl (zAA rfl (zAA rfl zAa))) zAN rfl rfl⟩
  · rw [List.drop_of_length_le hge] at hi2
    have e1 : fewF E L = ((L.take 61).all txG && decide (E.length ≤ 30) && decide (L.length ≤ 60)):=by rw [fewF,hi2];rfl
    have hc : ¬ (i : Int) < (E.length : Int) ∨ ((i : Int) < (E.length : Int) ∧ ¬ (i : Int) < 31):=by omega
    rw [e1]
    clear e1 hi2
    have hl61 : (L.take 61).length = min 61 L.length:=List.length_take
    rcases hc with hc | ⟨hc,hc3⟩
    all_goals
      skip
      repeat' first | apply en_n|apply zAH|apply zAB|apply zAF|apply w0|(apply k1u (hd:=rfl);exact rfl;exact rfl)|(apply zA5;exact rfl;exact rfl;first|assumption|omega)|(apply zBq;exact rfl;exact rfl;first|assumption|omega)|apply ay (hd:=rfl)|exact zAE rfl|exact zAC rfl|(apply zAl;exact rfl;(with_reducible exact zEC))|exact zAi rfl rfl|exact zAh rfl rfl|(apply w1;exact rfl;exact rfl)|(apply zAQ;exact rfl)|apply zAI|apply zAt|apply en_e|apply eb_e
      refine zAr (α:=Nat) (fun j=>j ≤ (L.take 61).length ∧ (L.take 61).all txG = ((L.take 61).drop j).all txG) (fun j=>[(0,.d (sigs E)),(1,.d (zAc L)),(7,.d (i64 (j : Int)))]) (fun _=>[]) (fun j=>(L.take 61).length - j) 0 ⟨Nat.zero_le _,rfl⟩
        (zAO (zAA rfl (zAA rfl (Le_d rfl rfl zAa))) zAN rfl rfl) ?_
      rintro j ⟨hj1,hj2⟩
      rcases Nat.lt_or_ge j (L.take 61).length with hjlt | hjge
      · obtain ⟨n,hn⟩ : ∃ n,L[j]? = some n:=⟨_,List.getElem?_eq_getElem (by omega)⟩
        have hn0 : L[((j : Nat) : Int).toNat]? = some n:=by rw [Int.toNat_natCast];exact hn
        have hlj : (j : Int) < (L.length : Int):=by omega
        have hl6 : (j : Int) < 61:=by omega
        rw [zKO (zMq hn (by omega))] at hj2
        by_cases c3 : n.text.length ≤ 60
        · have d3 : ¬ (n.text.length : Int) > 60:=by omega
          rw [show txG n = true from decide_eq_true c3,Bool.true_and] at hj2
          skip
          repeat' first | apply en_n|apply zAH|apply zAB|apply zAF|apply w0|(apply zA5;exact rfl;exact rfl;first|assumption|omega)|(apply zDo;exact rfl;exact rfl;first|assumption|omega)|(apply zDY;exact rfl;with_reducible exact ustr)|(apply aJ (hd:=rfl);(first|exact zAk rfl|exact Co_bb rfl rfl rfl|exact Co_nn rfl);exact rfl;(with_reducible exact zAW);assumption;omega;exact fun _=>rfl)|apply ay (hd:=rfl)|exact zAE rfl|exact zAC rfl|(apply zAy;exact rfl;(with_reducible exact fn_1))|(apply zAg;exact rfl;(with_reducible exact zAv))|(apply zAl;exact rfl;(with_reducible exact zA0))|(apply zBC;exact rfl;exact rfl)|exact zAi rfl rfl|(apply w1;exact rfl;exact rfl)|(apply zAK;exact rfl)|(apply zAQ;exact rfl)|apply zAI|apply zAP|apply eb_n
          all_goals first | omega | skip
          all_goals exact ⟨j + 1,⟨by omega,hj2⟩,by omega,zAO (zAA rfl (zAA rfl (zAA rfl zAa))) zAN rfl rfl⟩
        · have d3 : (n.text.length : Int) > 60:=by omega
          rw [show txG n = false from decide_eq_false c3,Bool.false_and] at hj2
          rw [hj2]
          clear hj2
          skip
          repeat' first | apply en_n|apply zAH|apply zAB|apply zAF|apply w0|(apply zA5;exact rfl;exact rfl;first|assumption|omega)|(apply zEo;exact rfl;exact rfl;first|assumption|omega)|(apply zDY;exact rfl;with_reducible exact ustr)|(apply aJ (hd:=rfl);(first|exact zAk rfl|exact Co_bb rfl rfl rfl|exact Co_nn rfl);exact rfl;(with_reducible exact zAW);assumption;omega;exact fun _=>rfl)|apply ay (hd:=rfl)|exact zAE rfl|exact zAC rfl|(apply zAy;exact rfl;(with_reducible exact fn_1))|(apply zAg;exact rfl;(with_reducible exact zAv))|(apply zAl;exact rfl;(with_reducible exact zA0))|exact zAi rfl rfl|(apply w1;exact rfl;exact rfl)|(apply zAK;exact rfl)|apply zAI|apply zAP|apply zAM|apply en_r|apply eb_r|apply zAJ|(apply res1;exact rfl)
          all_goals first | omega | rfl
      · rw [List.drop_of_length_le hjge] at hj2
        rw [hj2]
        clear hj2
        have hd : ¬ (j : Int) < (L.length : Int) ∨ ((j : Int) < (L.length : Int) ∧ ¬ (j : Int) < 61):=by omega
        rcases hd with hd | ⟨hd,hd3⟩
        all_goals
          by_cases c4 : (E.length : Int) ≤ 30 <;> by_cases c5 : (L.length : Int) ≤ 60
        all_goals skip
        repeat' first | apply en_n|apply zAH|apply zAB|apply zAF|apply w0|(apply k1u (hd:=rfl);exact rfl;exact rfl)|(apply zA5;exact rfl;exact rfl;first|assumption|omega)|(apply zBq;exact rfl;exact rfl;first|assumption|omega)|(apply zSn;exact rfl;exact rfl;first|assumption|omega)|(apply zU9;exact rfl;exact rfl;first|assumption|omega)|(apply zEo;exact rfl;exact rfl;first|assumption|omega)|(apply zDY;exact rfl;with_reducible exact ustr)|(apply aI (hd:=rfl);(first|exact zAk rfl|exact Co_bb rfl rfl rfl|exact Co_nn rfl);exact rfl;(with_reducible exact zAW);exact fun _=>rfl;rotate_left;intro v hv;rotate_right)|apply ay (hd:=rfl)|exact zAE rfl|exact zAC rfl|(apply zAy;exact rfl;(with_reducible exact fn_1))|(apply zAg;exact rfl;(with_reducible exact zAv))|(apply zAl;exact rfl;(with_reducible first|exact zEC|exact zA0))|exact zAi rfl rfl|exact zAh rfl rfl|(apply w1;exact rfl;exact rfl)|(apply zAK;exact rfl)|(apply zAQ;exact rfl)|apply zAI|apply zAP|apply zAM|apply zAt|apply en_r|apply en_e|apply eb_r|apply eb_e|apply zAJ|(apply res1;exact rfl)
        all_goals first | omega | (refine zDB ?_;simp;omega)
set_option maxHeartbeats 4000000 in
theorem zL9 (E : List Sg) (hE : E.length ≤ 1000000) (hT : ∀ s ∈ E,s.ty.length ≤ 1000000 ∧ s.name.length ≤ 1000000 ∧ ∀ n ∈ s.ty,n.text.length ≤ 1000000) : zAj Tryz.prog 7 [sigs E] (bl (envF E)):=by
  refine zAd Tryz.func7 rfl Tryz.ntmps7 Tryz.results7 rfl ?_
  intro wb St0
  repeat' first | apply en_n|apply zAH|apply zAB|apply zAF|apply w0|apply ay (hd:=rfl)|exact zAC rfl|apply zAI
  refine zAr (α:=Nat) (fun i=>i ≤ E.length ∧ envF E = zMN E i (E.drop i)) (fun i=>[(0,.d (sigs E)),(3,.d (i64 (i : Int)))]) (fun _=>[]) (fun i=>E.length - i) 0 ⟨Nat.zero_le _,rfl⟩
    (zAO (zAA rfl (Le_d rfl rfl zAa)) zAN rfl rfl) ?_
  rintro i ⟨hi,he⟩
  rcases Nat.lt_or_ge i E.length with hlt | hge
  · obtain ⟨s,hs⟩ : ∃ s,E[i]? = some s:=⟨_,List.getElem?_eq_getElem hlt⟩
    obtain ⟨hm1,hm2,hm3⟩:=hT _ (List.mem_of_getElem? hs)
    have hs0 : E[((i : Nat) : Int).toNat]? = some s:=by rw [Int.toNat_natCast];exact hs
    have hli : (i : Int) < (E.length : Int):=by omega
    rw [zJU hs] at he
    have hnm:=zKt s.name hm2
    have hcn:=zJr s.name hm2
    have hrt:=zN2 s.ty (by omega) hm3
    have hbB : envB E i s = ((!zDe s.name && !conF s.name) || decide (ckT s.ty ≠ 0) || (E.take i).any (fun x=>decide (x.name = s.name)) || (conF s.name && !conF (((zCG s.ty).2.map Nd.text).headD []))):=rfl
    have hid : i ≤ 1000000:=by omega
    by_cases c1 : (zDe s.name || conF s.name) && okT s.ty
    case neg =>
      have hbt : envB E i s = true:=by
        rw [hbB]
        cases hna : zDe s.name <;> cases hco : conF s.name <;> cases ho : okT s.ty <;> simp [hna,hco,ho,ckT] at c1 ⊢
      rw [hbt] at he
      simp only [Bool.not_true,Bool.false_and] at he
      rw [he]
      generalize zDe s.name = na at *
      generalize conF s.name = co at *
      generalize okT s.ty = ot at *
      clear hbB hbt hT
      cases na <;> cases co <;> cases ot
      all_goals first
        | exact absurd rfl c1
        | skip
      all_goals skip
      repeat' first | apply en_n|apply zAH|apply zAB|apply zAF|apply w0|(apply k1u (hd:=rfl);exact rfl;exact rfl)|(apply k0u (hd:=rfl);exact rfl;exact rfl)|(apply zA5;exact rfl;exact rfl;first|assumption|omega)|(refine zAV zGa hnm (zAX rfl zAG))|(refine zAV zHj hcn (zAX rfl zAG))|(refine zAV zJI hrt (zAX rfl zAG))|(apply aJ (hd:=rfl);(first|exact zAk rfl|exact Co_bb rfl rfl rfl|exact Co_nn rfl);exact rfl;(with_reducible exact zCL);assumption;omega;exact fun _=>rfl)|(apply zA4 (hd:=rfl) (hro:=rfl);(with_reducible exact zMe))|apply ay (hd:=rfl)|exact zAE rfl|exact zAC rfl|(apply zAf;exact rfl;(with_reducible exact zFp);exact rfl)|(apply zAl;exact rfl;(with_reducible exact zEC))|exact zBr rfl|exact zAi rfl rfl|exact zAh rfl rfl|(apply zAR;exact rfl;(with_reducible first|exact fg_0|exact fg_1))|(apply zAU;exact rfl;(with_reducible first|exact zAn|exact zAv);exact rfl;exact rfl)|(apply w1;exact rfl;exact rfl)|(refine w0' ?_)|(apply zAx;exact rfl;exact rfl;exact rfl;(with_reducible exact zFp);exact rfl;exact rfl;exact rfl;exact rfl)|(apply zAK;exact rfl)|apply zAI|apply zAP|apply zAM|apply en_r|apply eb_r|apply zAJ|(apply res1;exact rfl)
      all_goals first | omega | rfl
    rw [Bool.and_eq_true] at c1
    have hck : ckT s.ty = 0:=zUu c1.2
    obtain ⟨T,hTe,hw,hr,hs4⟩:=zIf hck
    have hpa:=zKp T.sz T (Nat.le_refl _) hs4 hw (by rw [hTe];exact hr)
    rw [← zD6 hw (by rw [hTe];exact hck),hTe] at hpa
    obtain ⟨y,r,hy⟩:=zM3 hck
    rw [hy] at hbB hpa
    simp only [List.map_cons,List.headD_cons] at hbB
    have hyt : y.text.length ≤ 1000000:=by
      have h5:=zN7 hck
      rw [hy] at h5
      exact hm3 y (h5 y List.mem_cons_self)
    have hcn2:=zJr y.text hyt
    have hbB2 : envB E i s = ((E.take i).any (fun x=>decide (x.name = s.name)) || (conF s.name && !conF y.text)):=by
      rw [hbB,hck]
      have : (!zDe s.name && !conF s.name) = false:=by
        have h6:=c1.1
        cases h7 : zDe s.name <;> cases h8 : conF s.name <;> simp [h7,h8] at h6 ⊢
      rw [this];simp
    rw [hbB2] at he
    have hc1:=c1.1
    rw [c1.2] at hrt
    generalize zDe s.name = na at *
    generalize conF s.name = co at *
    generalize conF y.text = cy at *
    generalize (zCG s.ty).1 = P1 at *
    have hy0 : (y :: r)[0]? = some y:=rfl
    clear hbB hbB2 hT c1 hck hTe hr hw hs4 hy hyt
    obtain ⟨co0,hco0⟩ : ∃ c,c = co:=⟨co,rfl⟩
    cases na <;> cases co
    all_goals first
      | cases hc1
      | skip
    all_goals
      skip
      repeat' first | apply en_n|apply zAH|apply zAB|apply zAF|apply w0|(apply k1u (hd:=rfl);exact rfl;exact rfl)|(apply zA5;exact rfl;exact rfl;first|assumption|omega)|(refine zAV zGa hnm (zAX rfl zAG))|(refine zAV zHj hcn (zAX rfl zAG))|(refine zAV zJI hrt (zAX rfl zAG))|(apply aJ (hd:=rfl);(first|exact zAk rfl|exact Co_bb rfl rfl rfl|exact Co_nn rfl);exact rfl;(with_reducible exact zCL);assumption;omega;exact fun _=>rfl)|(apply zA4 (hd:=rfl) (hro:=rfl);(with_reducible exact zMe))|apply ay (hd:=rfl)|exact zAE rfl|exact zAC rfl|(apply zAf;exact rfl;(with_reducible exact zFp);exact rfl)|(apply zAl;exact rfl;(with_reducible exact zEC))|exact zBr rfl|exact zAi rfl rfl|exact zAh rfl rfl|(apply zAR;exact rfl;(with_reducible first|exact fg_0|exact fg_1))|(apply zAU;exact rfl;(with_reducible first|exact zAn|exact zAv);exact rfl;exact rfl)|(apply w1;exact rfl;exact rfl)|(refine w0' ?_)|(apply zAx;exact rfl;exact rfl;exact rfl;(with_reducible exact zFp);exact rfl;exact rfl;exact rfl;exact rfl)|(apply zAK;exact rfl)|(apply zAQ;exact rfl)|apply zAI|apply zAP
    all_goals first | omega | skip
    all_goals
      refine zAr (α:=Nat) (fun k=>k ≤ i ∧ (E.take k).any (fun x=>decide (x.name = s.name)) = false) (fun k=>[(0,.d (sigs E)),(3,.d (i64 (i : Int))),(4,.ptr 0 0),(5,.d (bl co0)),(6,.d (i64 (k : Int)))]) (fun _=>[.box (s.cells.map .d)]) (fun k=>i - k) 0 ⟨Nat.zero_le _,by simp⟩
        (zAO (zAA rfl (zAA rfl (zAA rfl (Le_d rfl (by rw [hco0]) (Le_d rfl rfl zAa))))) (zAD rfl rfl zAN) rfl rfl) ?_
      rintro k ⟨hk1,hk2⟩
      subst hco0
      rcases Nat.lt_or_ge k i with hklt | hkge
      · obtain ⟨u,hu⟩ : ∃ u,E[k]? = some u:=⟨_,List.getElem?_eq_getElem (by omega)⟩
        have hu0 : E[((k : Nat) : Int).toNat]? = some u:=by rw [Int.toNat_natCast];exact hu
        have hlk : (k : Int) < (i : Int):=by omega
        have hlkl : (k : Int) < (E.length : Int):=by omega
        by_cases hun : u.name = s.name
        · have hany : (E.take i).any (fun x=>decide (x.name = s.name)) = true:=List.any_eq_true.2 ⟨u,List.mem_of_getElem? (i:=k) (by rw [List.getElem?_take,if_pos hklt];exact hu),by simp [hun]⟩
          rw [hany] at he
          simp only [Bool.true_or,Bool.not_true,Bool.false_and] at he
          rw [he]
          clear he hany
          skip
          repeat' first | apply en_n|apply zAH|apply zAB|apply zAF|apply w0|(apply zA5;exact rfl;exact rfl;first|assumption|omega)|(apply Go.Sx.Y_eqsT;exact rfl;exact rfl;assumption)|(apply aJ (hd:=rfl);(first|exact zAk rfl|exact Co_bb rfl rfl rfl|exact Co_nn rfl);exact rfl;(with_reducible exact zCL);assumption;omega;exact fun _=>rfl)|apply ay (hd:=rfl)|exact zAE rfl|exact zAC rfl|(apply zAy;exact rfl;(with_reducible exact fg_0))|(apply zAg;exact rfl;(with_reducible exact zAv))|(apply zAR;exact rfl;(with_reducible exact fg_0))|(apply zAU;exact rfl;(with_reducible exact zAv);exact rfl;exact rfl)|(apply zAK;exact rfl)|apply zAI|apply zAP|apply zAM|refine zA6 (by kernel_rfl) (by kernel_rfl) ?_|apply en_r|apply eb_r|apply zAJ|(apply res1;exact rfl)
          all_goals first | omega | rfl
        · clear he
          skip
          repeat' first | apply en_n|apply zAH|apply zAB|apply zAF|apply w0|(apply zA5;exact rfl;exact rfl;first|assumption|omega)|(apply Go.Sx.Y_eqsF;exact rfl;exact rfl;assumption)|(apply aJ (hd:=rfl);(first|exact zAk rfl|exact Co_bb rfl rfl rfl|exact Co_nn rfl);exact rfl;(with_reducible exact zCL);assumption;omega;exact fun _=>rfl)|apply ay (hd:=rfl)|exact zAE rfl|exact zAC rfl|(apply zAy;exact rfl;(with_reducible exact fg_0))|(apply zAg;exact rfl;(with_reducible exact zAv))|(apply zBC;exact rfl;exact rfl)|(apply zAR;exact rfl;(with_reducible exact fg_0))|(apply zAU;exact rfl;(with_reducible exact zAv);exact rfl;exact rfl)|(apply zAK;exact rfl)|(apply zAQ;exact rfl)|apply zAI|apply zAP|refine zA6 (by kernel_rfl) (by kernel_rfl) ?_|apply eb_n
          all_goals first | omega | skip
          all_goals exact ⟨k + 1,⟨by omega,by rw [List.take_add_one,hu,Option.toList_some,List.any_append,hk2];simp [hun]⟩,by omega,zAO (zAA rfl (zAA rfl (zAA rfl (zAA rfl (zAA rfl zAa))))) (zAD rfl rfl zAN) rfl rfl⟩
      · have hki : k = i:=by omega
        rw [hki] at hk2
        rw [hk2,Bool.false_or] at he
        have hlk : ¬ (k : Int) < (i : Int):=by omega
        clear hki hk2
        have hcy : cy = true ∨ cy = false:=by cases cy <;> simp
        rcases hcy with rfl | rfl
        all_goals
          simp only [Bool.not_true,Bool.not_false,Bool.false_and,Bool.true_and] at he
          skip
          repeat' first | apply en_n|apply zAH|apply zAB|apply zAF|apply w0|(apply k1u (hd:=rfl);exact rfl;exact rfl)|(apply zBq;exact rfl;exact rfl;first|assumption|omega)|(refine zAV zLD hpa (zAX rfl zAG))|(refine zAV zHj hcn2 (zAX rfl zAG))|(apply aJ (hd:=rfl);(first|exact zAk rfl|exact Co_bb rfl rfl rfl|exact Co_nn rfl);exact rfl;(with_reducible exact zAW);assumption;omega;exact fun _=>rfl)|apply ay (hd:=rfl)|exact zAE rfl|exact zAC rfl|(apply zAy;exact rfl;(with_reducible exact fn_1))|(apply zAg;exact rfl;(with_reducible exact zAv))|(apply zBC;exact rfl;exact rfl)|exact zBr rfl|exact zAi rfl rfl|exact zAh rfl rfl|exact zBQ rfl rfl|(apply zAR;exact rfl;(with_reducible exact fg_1))|(apply zAU;exact rfl;(with_reducible exact zAn);exact rfl;exact rfl)|(apply w1;exact rfl;exact rfl)|(apply zAK;exact rfl)|(apply zAQ;exact rfl)|apply zAP|apply zAM|apply zAt|apply en_r|apply en_e|apply eb_n|apply eb_r|apply eb_e|apply zAJ|(apply res1;exact rfl)
        all_goals first
          | omega
          | exact ⟨i + 1,⟨by omega,he⟩,by omega,zAO (zAA rfl (zAA rfl zAa)) zAN rfl rfl⟩
          | rw [he]
  · have hli : ¬ (i : Int) < (E.length : Int):=by omega
    have : envF E = true:=by rw [he,List.drop_of_length_le hge];rfl
    rw [this]
    skip
    repeat' first | apply en_n|apply zAH|apply zAB|apply zAF|apply w0|(apply zBq;exact rfl;exact rfl;first|assumption|omega)|apply ay (hd:=rfl)|exact zAE rfl|exact zAC rfl|(apply zAl;exact rfl;(with_reducible exact zEC))|(apply zAQ;exact rfl)|apply zAM|apply zAt|apply en_e|apply eb_e|apply zAJ|(apply res1;exact rfl)
    all_goals rfl
end Go.Proofs.YtblomnkamngnbaaGreatDoor
namespace Go.Proofs.YtblomnkamngnbaaGreatDoor
open Go.Sx Go.RowKit
attribute [local irreducible] zAT Program.underlying Ylds zBA alex zBe zBP awp zAj zBZ zBk zA2 zBH zBR zA8 zBV zBb zBf zBu zBO
set_option maxHeartbeats 8000000 in
theorem zSG (E : List Sg) (L : List Nd) : zAj Tryz.prog 3 [sigs E,zAc L] (bl true):=by
  have hF:=zPK E L
  cases hf : fewF E L with
  | false =>
    rw [hf] at hF
    refine zAd Tryz.func3 rfl Tryz.ntmps3 Tryz.results3 rfl ?_
    intro wb St0
    repeat' first | apply en_n|apply zAH|apply zAB|apply zAF|apply w0|(refine zAV zG7 zG5 zAG)|(refine zAV zIU hF (zAX rfl (zAX rfl zAG)))|apply ay (hd:=rfl)|exact zAE rfl|exact zAC rfl|exact zBr rfl|exact zAh rfl rfl|(apply w1;exact rfl;exact rfl)|(apply zAK;exact rfl)|apply zAM|apply en_r|apply zAJ|(apply res1;exact rfl)
    all_goals rfl
  | true =>
    rw [hf] at hF
    obtain ⟨h1,h2,h3,h4⟩:=zTV hf
    have hC:=zL9 E (by omega) (fun s hs=>by obtain ⟨a,b,c⟩:=h3 s hs;exact ⟨by omega,by omega,fun n hn=>by have:=c n hn;omega⟩)
    have hI:=zFK E (by omega) (fun s hs=>by have:=(h3 s hs).1;omega)
    have hO:=zRc E (by omega)
    have hN:=zOD L (by omega)
    have key : ∃ k v,zAj Tryz.prog 8 [zAc L,bl false] (i64 k) ∧ (k = 0 → zAj Tryz.prog 9 [zAc L,i64 0] (bl v)) ∧ zAj Tryz.prog 12 [zAc L] (bl (decide (k = 0) && v)):=by
      cases hw : zCA L with
      | false=>exact ⟨60,false,zN5 L false (by omega) hw,(fun c=>absurd c (by decide)),zPh L (by omega) hw⟩
      | true =>
        obtain ⟨t,rfl,hwf⟩:=zFY.1 hw
        refine ⟨chkT t false,t.val,zN4 t hwf false (by omega) (fun x hx=>by have:=h4 x hx;omega),fun h0=>?_,zIP t hwf (by omega)⟩
        exact zH9 t.fl (by omega) t.sz 0 t (Nat.le_refl _) (.top hwf) (zQJ h0).2.2.1
    obtain ⟨k,v,k1',k2,k3⟩:=key
    clear h3 h4 hf
    have body : ∀ (b : Bool),zAj Tryz.prog 7 [sigs E] (bl b) → zAj Tryz.prog 10 [sigs E] (i64 (if b then 0 else 110)) → zAj Tryz.prog 3 [sigs E,zAc L] (bl true):=by
      intro b hC hI
      by_cases h0 : k = 0
      · have k4:=k2 h0
        clear k2
        subst h0
        rw [decide_eq_true rfl,Bool.true_and] at k3
        cases b <;> cases v
        all_goals
          first
            | rw [if_pos rfl] at hI
            | rw [if_neg (by decide)] at hI
          refine zAd Tryz.func3 rfl Tryz.ntmps3 Tryz.results3 rfl ?_
          intro wb St0
          repeat' first | apply en_n|apply zAH|apply zAB|apply zAF|apply w0|(apply zBD;exact rfl;exact rfl;first|assumption|omega)|(apply zSq;exact rfl;exact rfl;with_reducible exact zGE)|(refine zAV zG7 zG5 zAG)|(refine zAV zIU hF (zAX rfl (zAX rfl zAG)))|(refine zAV zIV hC (zAX rfl zAG))|(refine zAV zJJ k1' (zAX rfl (zAX rfl zAG)))|(refine zAV zF3 k4 (zAX rfl (zAX rfl zAG)))|(refine zAV zNP hO (zAX rfl zAG))|(refine zAV zEB hI (zAX rfl zAG))|(refine zAV zJK hN (zAX rfl zAG))|(refine zAV zGb k3 (zAX rfl zAG))|apply ay (hd:=rfl)|exact zAE rfl|exact zAC rfl|exact zBr rfl|exact zAi rfl rfl|exact zAh rfl rfl|(apply w1;exact rfl;exact rfl)|(apply zAK;exact rfl)|(apply zAQ;exact rfl)|apply zAP|apply zAM|apply zAJ|(apply res1;exact rfl)
        all_goals rfl
      · rw [decide_eq_false h0,Bool.false_and] at k3
        clear k2
        cases b
        all_goals
          first
            | rw [if_pos rfl] at hI
            | rw [if_neg (by decide)] at hI
          refine zAd Tryz.func3 rfl Tryz.ntmps3 Tryz.results3 rfl ?_
          intro wb St0
          repeat' first | apply en_n|apply zAH|apply zAB|apply zAF|apply w0|(apply k1u (hd:=rfl);exact rfl;exact rfl)|(apply zBD;exact rfl;exact rfl;first|assumption|omega)|(apply zA9;exact rfl;exact rfl;first|assumption|omega)|(apply zSq;exact rfl;exact rfl;with_reducible exact zGE)|(refine zAV zG7 zG5 zAG)|(refine zAV zIU hF (zAX rfl (zAX rfl zAG)))|(refine zAV zIV hC (zAX rfl zAG))|(refine zAV zJJ k1' (zAX rfl (zAX rfl zAG)))|(refine zAV zNP hO (zAX rfl zAG))|(refine zAV zEB hI (zAX rfl zAG))|(refine zAV zJK hN (zAX rfl zAG))|(refine zAV zGb k3 (zAX rfl zAG))|apply ay (hd:=rfl)|exact zAE rfl|exact zAC rfl|exact zBr rfl|exact zAi rfl rfl|exact zAh rfl rfl|(apply w1;exact rfl;exact rfl)|(apply zAK;exact rfl)|(apply zAQ;exact rfl)|apply zAP|apply zAM|apply zAJ|(apply res1;exact rfl)
        all_goals rfl
    exact body _ hC hI
end Go.Proofs.YtblomnkamngnbaaGreatDoor
