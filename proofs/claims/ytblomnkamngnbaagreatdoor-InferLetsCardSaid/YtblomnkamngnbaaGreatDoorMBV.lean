/- Texts of this claim, merged: InfYE. -/
import Derived.Test.YtblomnkamngnbaaGreatDoorMBU
namespace Go.Proofs.YtblomnkamngnbaaGreatDoor
open Go.Sx Go.RowKit
theorem zPf {X : List UInt8} {t : List Nd} {E : List Sg} {i : Nat} {s : Sg} (h : E[i]? = some s) : zGD X t (E.take (i + 1)) = zGD X t (E.take i) ++ (if s.name = X then [] else [s]):=by
  unfold zGD
  rw [List.take_add_one,h,Option.toList_some,List.filter_append,List.cons_append]
  congr 2
  by_cases hx : s.name = X
  · rw [if_pos hx];simp [hx]
  · rw [if_neg hx];simp [hx]
attribute [local irreducible] zAO Program.underlying Ylds zA3 alex zBY zBN awp zAm zBT zBe zAx zBA zBP zA2 zBR zBX zBa zBq zBI
set_option maxHeartbeats 8000000 in
theorem zU2 (E : List Sg) (A B : List Nd) (X : List UInt8) (hX : X.length ≤ 9223372036854775807) : zAm Tryz.prog 4 [sigs E,zAc A,zAc B,str X] (bl true):=by
  have hFa:=zLI E A
  have hFb:=zLI [] B
  have hS:=zSb X hX
  cases hf : fewF E A with
  | false =>
    rw [hf] at hFa
    refine zAd Tryz.func4 rfl Tryz.ntmps4 Tryz.results4 rfl ?_
    intro wb St0
    repeat' first | apply en_n|apply zAH|apply zAC|apply zAF|apply w0|(apply k0u (hd:=rfl);exact rfl;exact rfl)|(refine zAX zDN zDM zAG)|(refine zAX zCE hFa (zAZ rfl (zAZ rfl zAG)))|apply ay (hd:=rfl)|exact zAE rfl|exact zAD rfl|exact zCS rfl|exact zAq rfl rfl|exact zAo rfl rfl|(apply w1;exact rfl;exact rfl)|(apply zAQ;exact rfl)|apply zAN|apply en_r|apply zAP|(apply res1;exact rfl)
    all_goals rfl
  | true =>
  rw [hf] at hFa
  cases hg : fewF [] B with
  | false =>
    rw [hg] at hFb
    refine zAd Tryz.func4 rfl Tryz.ntmps4 Tryz.results4 rfl ?_
    intro wb St0
    repeat' first | apply en_n|apply zAH|apply zAC|apply zAF|apply w0|(apply k0u (hd:=rfl);exact rfl;exact rfl)|(refine zAX zDN zDM zAG)|(refine zAX zCE hFa (zAZ rfl (zAZ rfl zAG)))|(refine zAX zCE hFb (zCs rfl (zAZ rfl zAG)))|apply ay (hd:=rfl)|exact zAE rfl|exact zAD rfl|exact zCS rfl|exact zAq rfl rfl|exact zAo rfl rfl|(apply w1;exact rfl;exact rfl)|(apply zAQ;exact rfl)|apply zAN|apply en_r|apply zAP|(apply res1;exact rfl)
    all_goals rfl
  | true =>
  rw [hg] at hFb
  cases hx : zD1 X with
  | false =>
    rw [hx] at hS
    refine zAd Tryz.func4 rfl Tryz.ntmps4 Tryz.results4 rfl ?_
    intro wb St0
    repeat' first | apply en_n|apply zAH|apply zAC|apply zAF|apply w0|(apply k0u (hd:=rfl);exact rfl;exact rfl)|(refine zAX zDN zDM zAG)|(refine zAX zCE hFa (zAZ rfl (zAZ rfl zAG)))|(refine zAX zCE hFb (zCs rfl (zAZ rfl zAG)))|(refine zAX zF7 hS (zAZ rfl zAG))|apply ay (hd:=rfl)|exact zAE rfl|exact zAD rfl|exact zCS rfl|exact zAq rfl rfl|exact zAo rfl rfl|(apply w1;exact rfl;exact rfl)|(apply zAQ;exact rfl)|apply zAN|apply en_r|apply zAP|(apply res1;exact rfl)
    all_goals rfl
  | true =>
  rw [hx] at hS
  by_cases hl : X.length ≤ 60
  case neg =>
    have hl2 : (X.length : Int) > 60:=by omega
    refine zAd Tryz.func4 rfl Tryz.ntmps4 Tryz.results4 rfl ?_
    intro wb St0
    repeat' first | apply en_n|apply zAH|apply zAC|apply zAF|apply w0|(apply k0u (hd:=rfl);exact rfl;exact rfl)|(apply zE0;exact rfl;exact rfl;first|assumption|omega)|(apply zC2;exact rfl;with_reducible exact ustr)|(refine zAX zDN zDM zAG)|(refine zAX zCE hFa (zAZ rfl (zAZ rfl zAG)))|(refine zAX zCE hFb (zCs rfl (zAZ rfl zAG)))|(refine zAX zF7 hS (zAZ rfl zAG))|apply ay (hd:=rfl)|exact zAE rfl|exact zAD rfl|exact zCS rfl|exact zAq rfl rfl|exact zAo rfl rfl|(apply w1;exact rfl;exact rfl)|(apply zAQ;exact rfl)|apply zAN|apply en_r|apply zAP|(apply res1;exact rfl)
    all_goals rfl
  have hl2 : ¬ (X.length : Int) > 60:=by omega
  obtain ⟨e1,e2,e3,e4⟩:=zQ1 hf
  obtain ⟨_,e5,_,_⟩:=zQ1 hg
  by_cases hz : A.length + B.length ≤ 50
  case neg =>
    have hz2 : (A.length : Int) + (B.length : Int) > 50:=by omega
    clear e3 e4
    refine zAd Tryz.func4 rfl Tryz.ntmps4 Tryz.results4 rfl ?_
    intro wb St0
    repeat' first | apply en_n|apply zAH|apply zAC|apply zAF|apply w0|(apply k0u (hd:=rfl);exact rfl;exact rfl)|(apply zE0;exact rfl;exact rfl;first|assumption|omega)|(apply zDw;exact rfl;exact rfl;first|assumption|omega)|(apply zC2;exact rfl;with_reducible exact ustr)|(refine zAX zDN zDM zAG)|(refine zAX zCE hFa (zAZ rfl (zAZ rfl zAG)))|(refine zAX zCE hFb (zCs rfl (zAZ rfl zAG)))|(refine zAX zF7 hS (zAZ rfl zAG))|apply ay (hd:=rfl)|exact zAE rfl|exact zAD rfl|(apply zAr;exact rfl;(with_reducible exact zA7))|(apply zBG;exact rfl;exact rfl)|exact zCS rfl|exact zAq rfl rfl|exact zAo rfl rfl|(apply w1;exact rfl;exact rfl)|(apply zAQ;exact rfl)|apply zAN|apply en_r|apply zAP|(apply res1;exact rfl)
    all_goals first | omega | rfl
  have hz2 : ¬ (A.length : Int) + (B.length : Int) > 50:=by omega
  have hNa:=zJR A (by omega)
  have hNb:=zJR B (by omega)
  have hO:=zSc E (by omega)
  have key : ∃ v,zAm Tryz.prog 12 [zAc A] (bl v) ∧ (v = true → ∃ a : Tr,a.fl = A ∧ a.wf ∧ zIC a = true):=by
    cases hw : zCH A with
    | false=>exact ⟨false,zQY A (by omega) hw,fun c=>(by cases c)⟩
    | true =>
      obtain ⟨t,rfl,hwf⟩:=zD8.1 hw
      exact ⟨_,zIe t hwf (by omega),fun h=>⟨t,rfl,hwf,h⟩⟩
  obtain ⟨v,hV,hv⟩:=key
  cases v with
  | false =>
    clear e3 e4 hv
    refine zAd Tryz.func4 rfl Tryz.ntmps4 Tryz.results4 rfl ?_
    intro wb St0
    repeat' first | apply en_n|apply zAH|apply zAC|apply zAF|apply w0|(apply zDw;exact rfl;exact rfl;first|assumption|omega)|(apply zC2;exact rfl;with_reducible exact ustr)|(refine zAX zDN zDM zAG)|(refine zAX zCE hFa (zAZ rfl (zAZ rfl zAG)))|(refine zAX zCE hFb (zCs rfl (zAZ rfl zAG)))|(refine zAX zF7 hS (zAZ rfl zAG))|(refine zAX zED hNa (zAZ rfl zAG))|(refine zAX zFi hV (zAZ rfl zAG))|apply ay (hd:=rfl)|exact zAE rfl|exact zAD rfl|(apply zAr;exact rfl;(with_reducible exact zA7))|(apply zBG;exact rfl;exact rfl)|exact zCS rfl|exact zAo rfl rfl|(apply w1;exact rfl;exact rfl)|(apply zAQ;exact rfl)|apply zAN|apply en_r|apply zAP|(apply res1;exact rfl)
    all_goals first | omega | rfl
  | true =>
  obtain ⟨a,rfl,haw,hav⟩:=hv rfl
  obtain ⟨t,e,u,f,i1,i2,i3,i4⟩:=zOs (E:=E) (b:=B) haw hav hx hz
  have hI1:=i1.call (by omega) (by omega) (fun s hs=>by have:=(e3 s hs).1;omega)
  have hI2:=i2.call (by simp only [List.length_cons,List.length_append];omega) (by omega) (fun s hs=>by have:=(e3 s hs).1;omega)
  have hM:=zNC ⟨7,X,0,0⟩ [a.fl,B] (by simp) (by simp;omega)
  rw [show zMi ⟨7,X,0,0⟩ [a.fl,B] = letN X :: (a.fl ++ B) by simp [zMi,letN]] at hM
  by_cases he : e = 0
  case neg =>
    have hfn:=i3 he
    generalize letN X :: (a.fl ++ B) = LL at *
    clear e3 e4 hv i4 i1 i2 i3 hav haw
    generalize a.fl = A at *
    refine zAd Tryz.func4 rfl Tryz.ntmps4 Tryz.results4 rfl ?_
    intro wb St0
    repeat' first | apply en_n|apply zAH|apply zAC|apply zAF|apply w0|(apply zDw;exact rfl;exact rfl;first|assumption|omega)|(apply zCT;exact rfl;exact rfl;first|assumption|omega)|(apply zC2;exact rfl;with_reducible exact ustr)|(refine zBS (cs:=Nd.cells ⟨7,X,0,0⟩) zEd zAp (PD_d rfl rfl (PD_d rfl rfl zCF)) rfl)|(refine zAX zDN zDM zAG)|(refine zAX zCE hFa (zAZ rfl (zAZ rfl zAG)))|(refine zAX zCE hFb (zCs rfl (zAZ rfl zAG)))|(refine zAX zF7 hS (zAZ rfl zAG))|(refine zAX zED hNa (zAZ rfl zAG))|(refine zAX zED hNb (zAZ rfl zAG))|(refine zAX zN1 hO (zAZ rfl zAG))|(refine zAX zFi hV (zAZ rfl zAG))|(refine zAX zKU hM (zAZ rfl (zAZ rfl zAG)))|(refine zAX zEU hI1 (zAZ rfl (zAZ rfl zAG)))|(refine zAX zEU hI2 (zAZ rfl (zAZ rfl zAG)))|apply ay (hd:=rfl)|exact zAE rfl|exact zAD rfl|(apply zAr;exact rfl;(with_reducible exact zA7))|(apply zBG;exact rfl;exact rfl)|exact zCS rfl|exact zAo rfl rfl|exact zBM rfl rfl|(apply zRg;(with_reducible exact zEE);(with_reducible exact zCf);(with_reducible exact zGX);exact rfl;exact rfl;(first|exact zAZ rfl (zAZ rfl zAG)|exact zCo rfl rfl rfl (zCo rfl rfl rfl zAG));exact rfl)|(apply w1;exact rfl;exact rfl)|(apply zAQ;exact rfl)|(apply zAU;exact rfl)|apply zAT|apply zAN|apply en_r|apply zAP|(apply res1;exact rfl)
    all_goals first | omega | rfl
  subst he
  obtain ⟨htl,w,g,i5,rfl,rfl,_⟩:=i4 rfl
  have hfl : ∀ i,(zGD X t (E.take i)).length ≤ E.length + 1:=fun i=>by
    unfold zGD
    have h1:=List.length_filter_le (fun s : Sg=>!decide (s.name = X)) (E.take i)
    have h2 : (E.take i).length ≤ E.length:=by rw [List.length_take];omega
    simp only [List.length_cons];omega
  have hI3:=i5.call (by omega) (by have:=hfl E.length;rw [List.take_length] at this;omega) (fun s hs=>by
    rcases List.mem_cons.1 hs with rfl | hs
    · show t.length ≤ 10000;omega
    · have:=(e3 s (List.mem_filter.1 hs).1).1;omega)
  have hE:=zRk u u (by have : u.length ≤ 2000000:=i5.len2;exact this)
  rw [decide_eq_true rfl] at hE
  generalize letN X :: (a.fl ++ B) = LL at *
  clear e3 e4 hv i4 i1 i2 i3 i5 hav haw
  generalize a.fl = A at *
  refine zAd Tryz.func4 rfl Tryz.ntmps4 Tryz.results4 rfl ?_
  intro wb St0
  repeat' first | (apply zV3 (d:=84) (hd:=rfl) (hro:=rfl);(with_reducible exact zG1);(with_reducible exact zCL);(with_reducible exact zPP);exact rfl;exact rfl;exact zAZ rfl zAG;exact rfl)|apply en_n|apply zAH|apply zAC|apply zAF|apply w0|(apply zDw;exact rfl;exact rfl;first|assumption|omega)|(apply zBm;exact rfl;exact rfl;first|assumption|omega)|(apply zC2;exact rfl;with_reducible exact ustr)|(refine zBS (cs:=Sg.cells ⟨X,t⟩) zVJ zPR (PD_d rfl rfl (PD_d rfl rfl zCF)) rfl)|(refine zBS (cs:=Nd.cells ⟨7,X,0,0⟩) zEd zAp (PD_d rfl rfl (PD_d rfl rfl zCF)) rfl)|(refine zAX zDN zDM zAG)|(refine zAX zCE hFa (zAZ rfl (zAZ rfl zAG)))|(refine zAX zCE hFb (zCs rfl (zAZ rfl zAG)))|(refine zAX zF7 hS (zAZ rfl zAG))|(refine zAX zED hNa (zAZ rfl zAG))|(refine zAX zED hNb (zAZ rfl zAG))|(refine zAX zN1 hO (zAZ rfl zAG))|(refine zAX zFi hV (zAZ rfl zAG))|(refine zAX zKU hM (zAZ rfl (zAZ rfl zAG)))|(refine zAX zEU hI1 (zAZ rfl (zAZ rfl zAG)))|(refine zAX zEU hI2 (zAZ rfl (zAZ rfl zAG)))|apply ay (hd:=rfl)|exact zAE rfl|exact zAD rfl|(apply zAr;exact rfl;(with_reducible exact zA7))|(apply zBG;exact rfl;exact rfl)|exact zCS rfl|exact zAo rfl rfl|exact zBM rfl rfl|exact zAj rfl|(apply zRg;(with_reducible exact zEE);(with_reducible exact zCf);(with_reducible exact zGX);exact rfl;exact rfl;(first|exact zAZ rfl (zAZ rfl zAG)|exact zCo rfl rfl rfl (zCo rfl rfl rfl zAG));exact rfl)|(apply w1;exact rfl;exact rfl)|(apply zAU;exact rfl)|apply zAJ|apply zAT
  all_goals first | omega | skip
  refine zAs (α:=Nat) (fun i=>i ≤ E.length) (fun i=>[(0,.d (sigs E)),(2,.d (zAc B)),(3,.d (str X)),(11,.d (zAc u)),(12,.d (i64 f)),(13,.buf 0 ((zGD X t (E.take i)).map Sg.av).length),(14,.d (i64 (i : Int)))]) (fun i=>[.buf false 42 2 ((zGD X t (E.take i)).map Sg.av)]) (fun i=>E.length - i) 0 (Nat.zero_le _)
    (zAL (zAA rfl (zAA rfl (zAA rfl (zAA rfl (zAA rfl (zBs rfl rfl (Le_d rfl rfl zAW))))))) (zAl rfl rfl rfl zAK) rfl rfl) ?_
  intro i hi
  have hbl:=hfl i
  rcases Nat.lt_or_ge i E.length with hlt | hge
  · obtain ⟨s,hs⟩ : ∃ s,E[i]? = some s:=⟨_,List.getElem?_eq_getElem hlt⟩
    have hs0 : E[((i : Nat) : Int).toNat]? = some s:=by rw [Int.toNat_natCast];exact hs
    have hli : (i : Int) < (E.length : Int):=by omega
    have hsc:=zPf (X:=X) (t:=t) hs
    clear hI1 hI2 hI3 hfl
    by_cases hsx : s.name = X
    · rw [if_pos hsx,List.append_nil] at hsc
      skip
      repeat' first | apply en_n|apply zAH|apply zAC|apply zAF|apply w0|(apply zBK;exact rfl;exact rfl;first|assumption|omega)|(apply zUv;exact rfl;exact rfl;assumption)|(apply aJ (hd:=rfl);(first|exact zAn rfl|exact Co_bb rfl rfl rfl|exact Co_nn rfl);exact rfl;(with_reducible exact zCL);assumption;omega;exact fun _=>rfl)|apply ay (hd:=rfl)|exact zAE rfl|exact zAD rfl|(apply zA5;exact rfl;(with_reducible exact fg_0))|(apply zAi;exact rfl;(with_reducible exact zA4))|(apply zAr;exact rfl;(with_reducible exact zEM))|(apply zBG;exact rfl;exact rfl)|(apply zAQ;exact rfl)|(apply zAU;exact rfl)|apply zAJ|apply zAT|apply eb_n
      all_goals first | omega | skip
      all_goals exact ⟨i + 1,by omega,by omega,zAL (zAA rfl (zAA rfl (zAA rfl (zAA rfl (zAA rfl (zBs rfl (by rw [hsc]) (zAA rfl zAW))))))) (zAl rfl rfl (by rw [hsc]) zAK) rfl rfl⟩
    · rw [if_neg hsx] at hsc
      skip
      repeat' first | apply en_n|apply zAH|apply zAC|apply zAF|apply w0|(apply zBK;exact rfl;exact rfl;first|assumption|omega)|(apply zUu;exact rfl;exact rfl;assumption)|(apply aApp (id:=0) (hd:=rfl) (hro:=rfl);exact rfl;exact rfl;(first|exact zAn rfl|exact Co_bb rfl rfl rfl|exact Co_nn rfl);(first|exact rfl|exact (by simp));exact rfl;(with_reducible exact zG1);(with_reducible exact zCL);(with_reducible exact zTS);(with_reducible exact zRF);(first|exact zCc (fun _=>rfl)|exact zCP rfl))|(apply aJ (hd:=rfl);(first|exact zAn rfl|exact Co_bb rfl rfl rfl|exact Co_nn rfl);exact rfl;(with_reducible exact zCL);assumption;omega;exact fun _=>rfl)|apply ay (hd:=rfl)|exact zAE rfl|exact zAD rfl|(apply zA5;exact rfl;(with_reducible exact fg_0))|(apply zAi;exact rfl;(with_reducible exact zA4))|(apply zAf;exact rfl;(with_reducible exact zIG);exact rfl)|(apply zAr;exact rfl;(with_reducible exact zEM))|(apply zBG;exact rfl;exact rfl)|exact zAt rfl|exact zAj rfl|(apply zCD;(with_reducible exact zG1);(with_reducible exact zCL);(with_reducible exact zPP);exact rfl;exact rfl;(first|exact zAZ rfl zAG|exact zCo rfl rfl rfl zAG|exact zCs rfl zAG);exact rfl)|(apply zAQ;exact rfl)|apply zAJ|apply zAT|apply eb_n
      all_goals first | omega | skip
      · simp only [List.length_map,List.length_cons,List.length_nil];omega
      · exact ⟨i + 1,by omega,by omega,zAL (zAA rfl (zAA rfl (zAA rfl (zAA rfl (zAA rfl (zBs rfl (by rw [hsc];simp) (zAA rfl zAW))))))) (zAl rfl rfl (by rw [hsc,List.map_append];rfl) zAK) rfl rfl⟩
  · have hli : ¬ (i : Int) < (E.length : Int):=by omega
    have e : E.take i = E:=List.take_of_length_le hge
    rw [← e] at hI3
    clear hI1 hI2 hfl
    skip
    repeat' first | apply en_n|apply zAH|apply zAC|apply zAF|apply w0|(apply zCJ;exact rfl;exact rfl;first|assumption|omega)|(apply zBV;exact rfl;exact rfl;first|assumption|omega)|(refine zAX zED hNb (zAZ rfl zAG))|(refine zAX zEU hI3 (zCo rfl rfl rfl (zAZ rfl zAG)))|(refine zAX zQh hE (zAZ rfl (zAZ rfl zAG)))|apply ay (hd:=rfl)|exact zAE rfl|exact zAD rfl|(apply zAr;exact rfl;(with_reducible exact zEM))|exact zAq rfl rfl|exact zBM rfl rfl|exact zAt rfl|(apply w1;exact rfl;exact rfl)|(apply zAU;exact rfl)|apply zAN|apply zAu|apply en_e|apply eb_e|apply zAP|(apply res1;exact rfl)
    all_goals first | omega | rfl
end Go.Proofs.YtblomnkamngnbaaGreatDoor
