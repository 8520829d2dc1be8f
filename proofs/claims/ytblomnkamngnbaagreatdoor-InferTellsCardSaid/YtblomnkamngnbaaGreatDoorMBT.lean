/- Texts of this claim, merged: TypYE. -/
import Derived.Test.YtblomnkamngnbaaGreatDoorMAG
import Derived.Test.YtblomnkamngnbaaGreatDoorMAN
import Derived.Test.YtblomnkamngnbaaGreatDoorMBN
namespace Go.Proofs.YtblomnkamngnbaaGreatDoor
open Go.Sx
theorem zJI : zAT Tryz.prog 21 = true:=by kernel_rfl
attribute [local irreducible] zAT Program.underlying Ylds zBA alex zBe zBP awp zAj zBZ zBk zA2 zBH zBR zA8 zBV zBb zBf zBu zBO
theorem zM5 {L : List Nd} : okT L = true ↔ L.length ≤ 4000 ∧ zCA L = true ∧ L.all zBT = true:=by simp [okT,and_assoc]
theorem zG2 {L : List Nd} {i : Nat} {v : Nd} (h : L[i]? = some v) (hv : zBT v = false) : okT L = false:=by
  cases h2 : okT L with
  | false=>rfl
  | true =>
    have:=List.all_eq_true.1 (zM5.1 h2).2.2 v (List.mem_of_getElem? h)
    rw [hv] at this;cases this
set_option maxHeartbeats 4000000 in
theorem zN2 (L : List Nd) (hL : L.length ≤ 2000000) (ht : ∀ x ∈ L,x.text.length ≤ 1000000) : zAj Tryz.prog 21 [zAc L] (bl (okT L)):=by
  refine zAd Tryz.func21 rfl Tryz.ntmps21 Tryz.results21 rfl ?_
  intro wb St0
  repeat' first | apply en_n|apply zAH|apply zAB|apply zAF|apply w0|(apply k0u (hd:=rfl);exact rfl;exact rfl)|(refine zAV zEe (zH7 L hL) (zAX rfl zAG))|apply ay (hd:=rfl)|exact zAE rfl|exact zAC rfl|(apply zAl;exact rfl;(with_reducible exact zA0))|exact zEp rfl rfl|exact zBr rfl|exact zAi rfl rfl|exact zAh rfl rfl|(apply w1;exact rfl;exact rfl)|(apply gD;exact rfl;exact rfl;(intro hb);rotate_left;(intro hb);rotate_right)|(apply zAK;exact rfl)|(apply zCc;exact rfl;(intro hb);rotate_left;(intro hb);rotate_right)|apply zAI|apply zAP|apply zAM|apply en_r|apply zAJ|(apply res1;exact rfl)
  · refine zDB ?_
    cases h2 : okT L with
    | false=>rfl
    | true=>have:=(zM5.1 h2).1;omega
  · refine zDB ?_
    cases h2 : okT L with
    | false=>rfl
    | true=>have:=(zM5.1 h2).2.1;rw [this] at hb;cases hb
  · have hlen : L.length ≤ 4000:=by omega
    have hwh : zCA L = true:=by simpa using hb
    refine zAr (α:=Nat) (fun i=>i ≤ L.length ∧ ∀ (j : Nat) u,j < i → L[j]? = some u → zBT u = true) (fun i=>[(0,.d (zAc L)),(3,.d (i64 (i : Int)))]) (fun _=>[]) (fun i=>L.length - i) 0 ⟨Nat.zero_le _,fun j u h=>by omega⟩
      (zAO (zAA rfl (zAA rfl zAa)) zAN rfl rfl) ?_
    rintro i ⟨hi1,hi2⟩
    rcases Nat.lt_or_ge i L.length with hlt | hge
    · obtain ⟨v,hv⟩ : ∃ v,L[i]? = some v:=⟨_,List.getElem?_eq_getElem hlt⟩
      have hli : (i : Int) < (L.length : Int):=by omega
      by_cases hk : v.kind = 31
      · skip
        repeat' first | apply en_n|apply zAH|apply zAB|apply zAF|apply w0|(apply k0u (hd:=rfl);exact rfl;exact rfl)|(apply zA5;exact rfl;exact rfl;first|assumption|omega)|(apply zBD;exact rfl;exact rfl;first|assumption|omega)|exact zGm rfl rfl|(apply aJ (hd:=rfl);(first|exact zAk rfl|exact Co_bb rfl rfl rfl|exact Co_nn rfl);exact rfl;(with_reducible exact zAW);assumption;omega;exact fun _=>rfl)|(apply zA4 (hd:=rfl) (hro:=rfl);(with_reducible exact zAp))|apply ay (hd:=rfl)|exact zAE rfl|exact zAC rfl|(apply zAf;exact rfl;(with_reducible exact zAY);exact rfl)|(apply zAl;exact rfl;(with_reducible exact zA0))|exact zCT rfl rfl|exact zEp rfl rfl|exact zEE rfl rfl|(apply zBC;exact rfl;exact rfl)|exact zAi rfl rfl|exact zAh rfl rfl|(apply zAR;exact rfl;(with_reducible first|exact fn_0|exact fn_1|exact fn_2|exact fn_3))|(apply zAU;exact rfl;(with_reducible first|exact zAs|exact zAe|exact zBK|exact zAv);exact rfl;exact rfl)|(apply w1;exact rfl;exact rfl)|(apply gD;exact rfl;exact rfl;(intro hb);rotate_left;(intro hb);rotate_right)|(refine w0' ?_)|(apply zAx;exact rfl;exact rfl;exact rfl;(with_reducible exact zAY);exact rfl;exact rfl;exact rfl;exact rfl)|(apply zAz;exact rfl;(intro hb);rotate_left;(intro hb);rotate_right)|(apply zAK;exact rfl)|apply zAI|apply zAP|apply zAM|apply zAt|apply en_r|apply en_e|apply eb_r|apply eb_e|apply zAJ|(apply res1;exact rfl)
        all_goals try omega
        all_goals first
          | (refine zDB (zG2 hv ?_).symm
             first
               | (simp_all [zBT];done)
               | (simp_all [zBT];omega))
          | (have hr : zBT v = true:=by (simp only [zBT,hk,if_true];first | (simp_all;done) | (simp_all;omega))
             exact ⟨i + 1,⟨by omega,fun j u hj hu=>by
            rcases Nat.lt_or_ge j i with h1 | h1
            · exact hi2 j u h1 hu
            · rw [show j = i by omega,hv] at hu;injection hu with hu;subst hu;exact hr⟩,by omega,zAO (zAA rfl (zAA rfl zAa)) zAN rfl rfl⟩)
      by_cases t1 : v.text = [45,62]
      · have hR:=zEZ ⟨2,v.text,0,0⟩ (ht v (List.mem_of_getElem? hv))
        rw [show zDd ⟨2,v.text,0,0⟩ = false by rw [t1];decide +kernel] at hR
        by_cases hg : v.kind = 32 ∧ v.num = 0 ∧ v.kids = 2
        · obtain ⟨g1,g2,g3⟩:=hg
          have hr : zBT v = true:=by simp [zBT,g1,g2,g3,t1,arrT]
          repeat' first | apply en_n|apply zAH|apply zAB|apply zAF|apply w0|(apply kU (hd:=rfl);exact rfl;exact rfl)|(apply k1u (hd:=rfl);exact rfl;exact rfl)|(apply k0u (hd:=rfl);exact rfl;exact rfl)|(apply zA5;exact rfl;exact rfl;first|assumption|omega)|(apply zBD;exact rfl;exact rfl;first|assumption|omega)|(apply zA9;exact rfl;exact rfl;first|assumption|omega)|(apply zBU;exact rfl;exact rfl;first|assumption|omega)|(apply zHR;exact rfl;exact rfl;exact t1)|(apply zBE;exact zE6;exact zDl;exact PD_d rfl rfl (PD_d rfl rfl zB0);exact rfl)|(refine zAV zB8 hR (zAX rfl zAG))|(apply aJ (hd:=rfl);(first|exact zAk rfl|exact Co_bb rfl rfl rfl|exact Co_nn rfl);exact rfl;(with_reducible exact zAW);assumption;omega;exact fun _=>rfl)|(apply zA4 (hd:=rfl) (hro:=rfl);(with_reducible exact zAp))|apply ay (hd:=rfl)|exact zAE rfl|exact zAC rfl|(apply zAf;exact rfl;(with_reducible exact zAY);exact rfl)|(apply zAl;exact rfl;(with_reducible exact zA0))|(apply zBC;exact rfl;exact rfl)|exact zBr rfl|exact zAi rfl rfl|exact zAh rfl rfl|(apply zAR;exact rfl;(with_reducible first|exact fn_0|exact fn_1|exact fn_2|exact fn_3))|(apply zAU;exact rfl;(with_reducible first|exact zAs|exact zAe|exact zBK|exact zAv);exact rfl;exact rfl)|(apply w1;exact rfl;exact rfl)|(refine w0' ?_)|(apply zAx;exact rfl;exact rfl;exact rfl;(with_reducible exact zAY);exact rfl;exact rfl;exact rfl;exact rfl)|(apply zAK;exact rfl)|(apply zAQ;exact rfl)|apply zAI|apply zAP|apply eb_n
          all_goals try omega
          exact ⟨i + 1,⟨by omega,fun j u hj hu=>by
            rcases Nat.lt_or_ge j i with h1 | h1
            · exact hi2 j u h1 hu
            · rw [show j = i by omega,hv] at hu;injection hu with hu;subst hu;exact hr⟩,by omega,zAO (zAA rfl (zAA rfl zAa)) zAN rfl rfl⟩
        · have hr : zBT v = false:=by
            simp only [zBT,hk,t1,arrT,intT,texT,refT];simp;omega
          have hz : bl false = bl (okT L):=by rw [zG2 hv hr]
          repeat' first | apply en_n|apply zAH|apply zAB|apply zAF|apply w0|(apply kU (hd:=rfl);exact rfl;exact rfl)|(apply k1u (hd:=rfl);exact rfl;exact rfl)|(apply k0u (hd:=rfl);exact rfl;exact rfl)|(apply zA5;exact rfl;exact rfl;first|assumption|omega)|(apply zA9;exact rfl;exact rfl;first|assumption|omega)|(apply zB7;exact rfl;exact rfl;first|assumption|omega)|(apply zHR;exact rfl;exact rfl;exact t1)|(refine Y_eqsF (by rw [t1];decide) rfl rfl)|(apply zBE;exact zE6;exact zDl;exact PD_d rfl rfl (PD_d rfl rfl zB0);exact rfl)|(refine zAV zB8 hR (zAX rfl zAG))|(apply aJ (hd:=rfl);(first|exact zAk rfl|exact Co_bb rfl rfl rfl|exact Co_nn rfl);exact rfl;(with_reducible exact zAW);assumption;omega;exact fun _=>rfl)|(apply zA4 (hd:=rfl) (hro:=rfl);(with_reducible exact zAp))|apply ay (hd:=rfl)|exact zAE rfl|exact zAC rfl|(apply zAf;exact rfl;(with_reducible exact zAY);exact rfl)|(apply zAl;exact rfl;(with_reducible exact zA0))|exact zC6 rfl rfl|exact zEE rfl rfl|exact zBr rfl|exact zAi rfl rfl|exact zAh rfl rfl|(apply zAR;exact rfl;(with_reducible first|exact fn_0|exact fn_1|exact fn_2|exact fn_3))|(apply zAU;exact rfl;(with_reducible first|exact zAs|exact zAe|exact zBK|exact zAv);exact rfl;exact rfl)|(apply w1;exact rfl;exact rfl)|(apply gD;exact rfl;exact rfl;(intro hb);rotate_left;(intro hb);rotate_right)|(refine w0' ?_)|(apply zAx;exact rfl;exact rfl;exact rfl;(with_reducible exact zAY);exact rfl;exact rfl;exact rfl;exact rfl)|(apply zAK;exact rfl)|(apply zAQ;exact rfl)|apply zAI|apply zAP|apply zAM|apply en_r|apply eb_r|apply zAJ|(apply res1;exact rfl)
          all_goals try omega
          all_goals first | exact hz | (exfalso;omega)
      by_cases t2 : v.text = [105,110,116]
      · have hR:=zEZ ⟨2,v.text,0,0⟩ (ht v (List.mem_of_getElem? hv))
        rw [show zDd ⟨2,v.text,0,0⟩ = false by rw [t2];decide +kernel] at hR
        by_cases hg : v.kind = 32 ∧ v.num = 0 ∧ v.kids = 0
        · obtain ⟨g1,g2,g3⟩:=hg
          have hr : zBT v = true:=by simp [zBT,g1,g2,g3,t2,arrT,intT,texT]
          repeat' first | apply en_n|apply zAH|apply zAB|apply zAF|apply w0|(apply kU (hd:=rfl);exact rfl;exact rfl)|(apply k1u (hd:=rfl);exact rfl;exact rfl)|(apply k0u (hd:=rfl);exact rfl;exact rfl)|(apply zA5;exact rfl;exact rfl;first|assumption|omega)|(apply zBD;exact rfl;exact rfl;first|assumption|omega)|(apply zA9;exact rfl;exact rfl;first|assumption|omega)|(apply zBU;exact rfl;exact rfl;first|assumption|omega)|(apply zHR;exact rfl;exact rfl;exact t2)|(refine Y_eqsF (by rw [t2];decide) rfl rfl)|(apply zBE;exact zE6;exact zDl;exact PD_d rfl rfl (PD_d rfl rfl zB0);exact rfl)|(refine zAV zB8 hR (zAX rfl zAG))|(apply aJ (hd:=rfl);(first|exact zAk rfl|exact Co_bb rfl rfl rfl|exact Co_nn rfl);exact rfl;(with_reducible exact zAW);assumption;omega;exact fun _=>rfl)|(apply zA4 (hd:=rfl) (hro:=rfl);(with_reducible exact zAp))|apply ay (hd:=rfl)|exact zAE rfl|exact zAC rfl|(apply zAf;exact rfl;(with_reducible exact zAY);exact rfl)|(apply zAl;exact rfl;(with_reducible exact zA0))|(apply zBC;exact rfl;exact rfl)|exact zBr rfl|exact zAi rfl rfl|exact zAh rfl rfl|(apply zAR;exact rfl;(with_reducible first|exact fn_0|exact fn_1|exact fn_2|exact fn_3))|(apply zAU;exact rfl;(with_reducible first|exact zAs|exact zAe|exact zBK|exact zAv);exact rfl;exact rfl)|(apply w1;exact rfl;exact rfl)|(refine w0' ?_)|(apply zAx;exact rfl;exact rfl;exact rfl;(with_reducible exact zAY);exact rfl;exact rfl;exact rfl;exact rfl)|(apply zAK;exact rfl)|(apply zAQ;exact rfl)|apply zAI|apply zAP|apply eb_n
          all_goals try omega
          exact ⟨i + 1,⟨by omega,fun j u hj hu=>by
            rcases Nat.lt_or_ge j i with h1 | h1
            · exact hi2 j u h1 hu
            · rw [show j = i by omega,hv] at hu;injection hu with hu;subst hu;exact hr⟩,by omega,zAO (zAA rfl (zAA rfl zAa)) zAN rfl rfl⟩
        · have hr : zBT v = false:=by
            simp only [zBT,hk,t2,arrT,intT,texT,refT];simp;omega
          have hz : bl false = bl (okT L):=by rw [zG2 hv hr]
          repeat' first | apply en_n|apply zAH|apply zAB|apply zAF|apply w0|(apply kU (hd:=rfl);exact rfl;exact rfl)|(apply k1u (hd:=rfl);exact rfl;exact rfl)|(apply k0u (hd:=rfl);exact rfl;exact rfl)|(apply zA5;exact rfl;exact rfl;first|assumption|omega)|(apply zA9;exact rfl;exact rfl;first|assumption|omega)|(apply zB7;exact rfl;exact rfl;first|assumption|omega)|(apply zHR;exact rfl;exact rfl;exact t2)|(refine Y_eqsF (by rw [t2];decide) rfl rfl)|(apply zBE;exact zE6;exact zDl;exact PD_d rfl rfl (PD_d rfl rfl zB0);exact rfl)|(refine zAV zB8 hR (zAX rfl zAG))|(apply aJ (hd:=rfl);(first|exact zAk rfl|exact Co_bb rfl rfl rfl|exact Co_nn rfl);exact rfl;(with_reducible exact zAW);assumption;omega;exact fun _=>rfl)|(apply zA4 (hd:=rfl) (hro:=rfl);(with_reducible exact zAp))|apply ay (hd:=rfl)|exact zAE rfl|exact zAC rfl|(apply zAf;exact rfl;(with_reducible exact zAY);exact rfl)|(apply zAl;exact rfl;(with_reducible exact zA0))|exact zC6 rfl rfl|exact zEE rfl rfl|exact zBr rfl|exact zAi rfl rfl|exact zAh rfl rfl|(apply zAR;exact rfl;(with_reducible first|exact fn_0|exact fn_1|exact fn_2|exact fn_3))|(apply zAU;exact rfl;(with_reducible first|exact zAs|exact zAe|exact zBK|exact zAv);exact rfl;exact rfl)|(apply w1;exact rfl;exact rfl)|(apply gD;exact rfl;exact rfl;(intro hb);rotate_left;(intro hb);rotate_right)|(refine w0' ?_)|(apply zAx;exact rfl;exact rfl;exact rfl;(with_reducible exact zAY);exact rfl;exact rfl;exact rfl;exact rfl)|(apply zAK;exact rfl)|(apply zAQ;exact rfl)|apply zAI|apply zAP|apply zAM|apply en_r|apply eb_r|apply zAJ|(apply res1;exact rfl)
          all_goals try omega
          all_goals first | exact hz | (exfalso;omega)
      by_cases t3 : v.text = [116,101,120,116]
      · have hR:=zEZ ⟨2,v.text,0,0⟩ (ht v (List.mem_of_getElem? hv))
        rw [show zDd ⟨2,v.text,0,0⟩ = false by rw [t3];decide +kernel] at hR
        by_cases hg : v.kind = 32 ∧ v.num = 0 ∧ v.kids = 0
        · obtain ⟨g1,g2,g3⟩:=hg
          have hr : zBT v = true:=by simp [zBT,g1,g2,g3,t3,arrT,intT,texT]
          repeat' first | apply en_n|apply zAH|apply zAB|apply zAF|apply w0|(apply kU (hd:=rfl);exact rfl;exact rfl)|(apply k1u (hd:=rfl);exact rfl;exact rfl)|(apply k0u (hd:=rfl);exact rfl;exact rfl)|(apply zA5;exact rfl;exact rfl;first|assumption|omega)|(apply zBD;exact rfl;exact rfl;first|assumption|omega)|(apply zA9;exact rfl;exact rfl;first|assumption|omega)|(apply zBU;exact rfl;exact rfl;first|assumption|omega)|(apply zHR;exact rfl;exact rfl;exact t3)|(refine Y_eqsF (by rw [t3];decide) rfl rfl)|(apply zBE;exact zE6;exact zDl;exact PD_d rfl rfl (PD_d rfl rfl zB0);exact rfl)|(refine zAV zB8 hR (zAX rfl zAG))|(apply aJ (hd:=rfl);(first|exact zAk rfl|exact Co_bb rfl rfl rfl|exact Co_nn rfl);exact rfl;(with_reducible exact zAW);assumption;omega;exact fun _=>rfl)|(apply zA4 (hd:=rfl) (hro:=rfl);(with_reducible exact zAp))|apply ay (hd:=rfl)|exact zAE rfl|exact zAC rfl|(apply zAf;exact rfl;(with_reducible exact zAY);exact rfl)|(apply zAl;exact rfl;(with_reducible exact zA0))|(apply zBC;exact rfl;exact rfl)|exact zBr rfl|exact zAi rfl rfl|exact zAh rfl rfl|(apply zAR;exact rfl;(with_reducible first|exact fn_0|exact fn_1|exact fn_2|exact fn_3))|(apply zAU;exact rfl;(with_reducible first|exact zAs|exact zAe|exact zBK|exact zAv);exact rfl;exact rfl)|(apply w1;exact rfl;exact rfl)|(refine w0' ?_)|(apply zAx;exact rfl;exact rfl;exact rfl;(with_reducible exact zAY);exact rfl;exact rfl;exact rfl;exact rfl)|(apply zAK;exact rfl)|(apply zAQ;exact rfl)|apply zAI|apply zAP|apply eb_n
          all_goals try omega
          exact ⟨i + 1,⟨by omega,fun j u hj hu=>by
            rcases Nat.lt_or_ge j i with h1 | h1
            · exact hi2 j u h1 hu
            · rw [show j = i by omega,hv] at hu;injection hu with hu;subst hu;exact hr⟩,by omega,zAO (zAA rfl (zAA rfl zAa)) zAN rfl rfl⟩
        · have hr : zBT v = false:=by
            simp only [zBT,hk,t3,arrT,intT,texT,refT];simp;omega
          have hz : bl false = bl (okT L):=by rw [zG2 hv hr]
          repeat' first | apply en_n|apply zAH|apply zAB|apply zAF|apply w0|(apply kU (hd:=rfl);exact rfl;exact rfl)|(apply k1u (hd:=rfl);exact rfl;exact rfl)|(apply k0u (hd:=rfl);exact rfl;exact rfl)|(apply zA5;exact rfl;exact rfl;first|assumption|omega)|(apply zA9;exact rfl;exact rfl;first|assumption|omega)|(apply zB7;exact rfl;exact rfl;first|assumption|omega)|(apply zHR;exact rfl;exact rfl;exact t3)|(refine Y_eqsF (by rw [t3];decide) rfl rfl)|(apply zBE;exact zE6;exact zDl;exact PD_d rfl rfl (PD_d rfl rfl zB0);exact rfl)|(refine zAV zB8 hR (zAX rfl zAG))|(apply aJ (hd:=rfl);(first|exact zAk rfl|exact Co_bb rfl rfl rfl|exact Co_nn rfl);exact rfl;(with_reducible exact zAW);assumption;omega;exact fun _=>rfl)|(apply zA4 (hd:=rfl) (hro:=rfl);(with_reducible exact zAp))|apply ay (hd:=rfl)|exact zAE rfl|exact zAC rfl|(apply zAf;exact rfl;(with_reducible exact zAY);exact rfl)|(apply zAl;exact rfl;(with_reducible exact zA0))|exact zC6 rfl rfl|exact zEE rfl rfl|exact zBr rfl|exact zAi rfl rfl|exact zAh rfl rfl|(apply zAR;exact rfl;(with_reducible first|exact fn_0|exact fn_1|exact fn_2|exact fn_3))|(apply zAU;exact rfl;(with_reducible first|exact zAs|exact zAe|exact zBK|exact zAv);exact rfl;exact rfl)|(apply w1;exact rfl;exact rfl)|(apply gD;exact rfl;exact rfl;(intro hb);rotate_left;(intro hb);rotate_right)|(refine w0' ?_)|(apply zAx;exact rfl;exact rfl;exact rfl;(with_reducible exact zAY);exact rfl;exact rfl;exact rfl;exact rfl)|(apply zAK;exact rfl)|(apply zAQ;exact rfl)|apply zAI|apply zAP|apply zAM|apply en_r|apply eb_r|apply zAJ|(apply res1;exact rfl)
          all_goals try omega
          all_goals first | exact hz | (exfalso;omega)
      by_cases t4 : v.text = [114,101,102]
      · have hR:=zEZ ⟨2,v.text,0,0⟩ (ht v (List.mem_of_getElem? hv))
        rw [show zDd ⟨2,v.text,0,0⟩ = false by rw [t4];decide +kernel] at hR
        by_cases hg : v.kind = 32 ∧ v.num = 0 ∧ v.kids = 1
        · obtain ⟨g1,g2,g3⟩:=hg
          have hr : zBT v = true:=by simp [zBT,g1,g2,g3,t4,arrT,intT,texT,refT]
          repeat' first | apply en_n|apply zAH|apply zAB|apply zAF|apply w0|(apply k1u (hd:=rfl);exact rfl;exact rfl)|(apply zA5;exact rfl;exact rfl;first|assumption|omega)|(apply zBD;exact rfl;exact rfl;first|assumption|omega)|(apply zA9;exact rfl;exact rfl;first|assumption|omega)|(apply zBU;exact rfl;exact rfl;first|assumption|omega)|(apply zHR;exact rfl;exact rfl;exact t4)|(refine Y_eqsF (by rw [t4];decide) rfl rfl)|(apply zBE;exact zE6;exact zDl;exact PD_d rfl rfl (PD_d rfl rfl zB0);exact rfl)|(refine zAV zB8 hR (zAX rfl zAG))|(apply aJ (hd:=rfl);(first|exact zAk rfl|exact Co_bb rfl rfl rfl|exact Co_nn rfl);exact rfl;(with_reducible exact zAW);assumption;omega;exact fun _=>rfl)|(apply zA4 (hd:=rfl) (hro:=rfl);(with_reducible exact zAp))|apply ay (hd:=rfl)|exact zAE rfl|exact zAC rfl|(apply zAf;exact rfl;(with_reducible exact zAY);exact rfl)|(apply zAl;exact rfl;(with_reducible exact zA0))|(apply zBC;exact rfl;exact rfl)|exact zBr rfl|exact zAi rfl rfl|exact zAh rfl rfl|(apply zAR;exact rfl;(with_reducible first|exact fn_0|exact fn_1|exact fn_2|exact fn_3))|(apply zAU;exact rfl;(with_reducible first|exact zAs|exact zAe|exact zBK|exact zAv);exact rfl;exact rfl)|(apply w1;exact rfl;exact rfl)|(refine w0' ?_)|(apply zAx;exact rfl;exact rfl;exact rfl;(with_reducible exact zAY);exact rfl;exact rfl;exact rfl;exact rfl)|(apply zAK;exact rfl)|(apply zAQ;exact rfl)|apply zAI|apply zAP|apply eb_n
          all_goals try omega
          exact ⟨i + 1,⟨by omega,fun j u hj hu=>by
            rcases Nat.lt_or_ge j i with h1 | h1
            · exact hi2 j u h1 hu
            · rw [show j = i by omega,hv] at hu;injection hu with hu;subst hu;exact hr⟩,by omega,zAO (zAA rfl (zAA rfl zAa)) zAN rfl rfl⟩
        · have hr : zBT v = false:=by
            simp only [zBT,hk,t4,arrT,intT,texT,refT];simp;omega
          have hz : bl false = bl (okT L):=by rw [zG2 hv hr]
          repeat' first | apply en_n|apply zAH|apply zAB|apply zAF|apply w0|(apply kU (hd:=rfl);exact rfl;exact rfl)|(apply k1u (hd:=rfl);exact rfl;exact rfl)|(apply k0u (hd:=rfl);exact rfl;exact rfl)|(apply zA5;exact rfl;exact rfl;first|assumption|omega)|(apply zA9;exact rfl;exact rfl;first|assumption|omega)|(apply zHR;exact rfl;exact rfl;exact t4)|(refine Y_eqsF (by rw [t4];decide) rfl rfl)|(apply zBE;exact zE6;exact zDl;exact PD_d rfl rfl (PD_d rfl rfl zB0);exact rfl)|(refine zAV zB8 hR (zAX rfl zAG))|(apply aJ (hd:=rfl);(first|exact zAk rfl|exact Co_bb rfl rfl rfl|exact Co_nn rfl);exact rfl;(with_reducible exact zAW);assumption;omega;exact fun _=>rfl)|(apply zA4 (hd:=rfl) (hro:=rfl);(with_reducible exact zAp))|apply ay (hd:=rfl)|exact zAE rfl|exact zAC rfl|(apply zAf;exact rfl;(with_reducible exact zAY);exact rfl)|(apply zAl;exact rfl;(with_reducible exact zA0))|exact zC6 rfl rfl|exact zEE rfl rfl|(apply zBC;exact rfl;exact rfl)|exact zBr rfl|exact zAi rfl rfl|exact zAh rfl rfl|(apply zAR;exact rfl;(with_reducible first|exact fn_0|exact fn_1|exact fn_2|exact fn_3))|(apply zAU;exact rfl;(with_reducible first|exact zAs|exact zAe|exact zBK|exact zAv);exact rfl;exact rfl)|(apply w1;exact rfl;exact rfl)|(apply gD;exact rfl;exact rfl;(intro hb);rotate_left;(intro hb);rotate_right)|(refine w0' ?_)|(apply zAx;exact rfl;exact rfl;exact rfl;(with_reducible exact zAY);exact rfl;exact rfl;exact rfl;exact rfl)|(apply zIl;exact rfl;(intro hb);rotate_left;(intro hb);rotate_right)|(apply zAK;exact rfl)|(apply zAQ;exact rfl)|apply zAI|apply zAP|apply zAM|apply en_r|apply eb_n|apply eb_r|apply zAJ|(apply res1;exact rfl)
          all_goals try omega
          all_goals first | exact hz | (exfalso;omega)
      have hR:=zEZ ⟨2,v.text,0,0⟩ (ht v (List.mem_of_getElem? hv))
      by_cases hg : v.kind = 32 ∧ v.num = 0 ∧ zDd ⟨2,v.text,0,0⟩ = true ∧ v.kids ≤ 8
      · obtain ⟨g1,g2,g3,g4⟩:=hg
        have hr : zBT v = true:=by simp [zBT,g1,g2,g3,g4,t1,t2,t3,t4,arrT,intT,texT,refT]
        rw [g3] at hR
        repeat' first | apply en_n|apply zAH|apply zAB|apply zAF|apply w0|(apply k1u (hd:=rfl);exact rfl;exact rfl)|(apply zA5;exact rfl;exact rfl;first|assumption|omega)|(apply zSn;exact rfl;exact rfl;first|assumption|omega)|(apply zA9;exact rfl;exact rfl;first|assumption|omega)|(apply zBU;exact rfl;exact rfl;first|assumption|omega)|(refine Y_eqsF t1 rfl rfl)|(refine Y_eqsF t2 rfl rfl)|(refine Y_eqsF t3 rfl rfl)|(refine Y_eqsF t4 rfl rfl)|(apply zBE;exact zE6;exact zDl;exact PD_d rfl rfl (PD_d rfl rfl zB0);exact rfl)|(refine zAV zB8 hR (zAX rfl zAG))|(apply aJ (hd:=rfl);(first|exact zAk rfl|exact Co_bb rfl rfl rfl|exact Co_nn rfl);exact rfl;(with_reducible exact zAW);assumption;omega;exact fun _=>rfl)|(apply zA4 (hd:=rfl) (hro:=rfl);(with_reducible exact zAp))|apply ay (hd:=rfl)|exact zAE rfl|exact zAC rfl|(apply zAf;exact rfl;(with_reducible exact zAY);exact rfl)|(apply zAl;exact rfl;(with_reducible exact zA0))|(apply zBC;exact rfl;exact rfl)|exact zBr rfl|exact zAi rfl rfl|exact zAh rfl rfl|(apply zAR;exact rfl;(with_reducible first|exact fn_0|exact fn_1|exact fn_2|exact fn_3))|(apply zAU;exact rfl;(with_reducible first|exact zAs|exact zAe|exact zBK|exact zAv);exact rfl;exact rfl)|(apply w1;exact rfl;exact rfl)|(refine w0' ?_)|(apply zAx;exact rfl;exact rfl;exact rfl;(with_reducible exact zAY);exact rfl;exact rfl;exact rfl;exact rfl)|(apply zAK;exact rfl)|(apply zAQ;exact rfl)|apply zAI|apply zAP|apply eb_n
        all_goals try omega
        exact ⟨i + 1,⟨by omega,fun j u hj hu=>by
            rcases Nat.lt_or_ge j i with h1 | h1
            · exact hi2 j u h1 hu
            · rw [show j = i by omega,hv] at hu;injection hu with hu;subst hu;exact hr⟩,by omega,zAO (zAA rfl (zAA rfl zAa)) zAN rfl rfl⟩
      · have hr : zBT v = false:=by
          simp only [zBT,t1,t2,t3,t4,arrT,intT,texT,refT]
          by_cases c1 : v.kind = 32 <;> by_cases c2 : v.num = 0 <;> cases c3 : zDd ⟨2,v.text,0,0⟩ <;> simp_all
        have hz : bl false = bl (okT L):=by rw [zG2 hv hr]
        cases hq : zDd ⟨2,v.text,0,0⟩ with
        | false =>
          rw [hq] at hR
          repeat' first | apply en_n|apply zAH|apply zAB|apply zAF|apply w0|(apply kU (hd:=rfl);exact rfl;exact rfl)|(apply k1u (hd:=rfl);exact rfl;exact rfl)|(apply k0u (hd:=rfl);exact rfl;exact rfl)|(apply zA5;exact rfl;exact rfl;first|assumption|omega)|(apply zA9;exact rfl;exact rfl;first|assumption|omega)|(refine Y_eqsF t1 rfl rfl)|(refine Y_eqsF t2 rfl rfl)|(refine Y_eqsF t3 rfl rfl)|(refine Y_eqsF t4 rfl rfl)|(apply zBE;exact zE6;exact zDl;exact PD_d rfl rfl (PD_d rfl rfl zB0);exact rfl)|(refine zAV zB8 hR (zAX rfl zAG))|(apply aJ (hd:=rfl);(first|exact zAk rfl|exact Co_bb rfl rfl rfl|exact Co_nn rfl);exact rfl;(with_reducible exact zAW);assumption;omega;exact fun _=>rfl)|(apply zA4 (hd:=rfl) (hro:=rfl);(with_reducible exact zAp))|apply ay (hd:=rfl)|exact zAE rfl|exact zAC rfl|(apply zAf;exact rfl;(with_reducible exact zAY);exact rfl)|(apply zAl;exact rfl;(with_reducible exact zA0))|exact zEE rfl rfl|exact zBr rfl|exact zAi rfl rfl|exact zAh rfl rfl|(apply zAR;exact rfl;(with_reducible first|exact fn_0|exact fn_1|exact fn_2))|(apply zAU;exact rfl;(with_reducible first|exact zAe|exact zBK|exact zAv);exact rfl;exact rfl)|(apply w1;exact rfl;exact rfl)|(apply gD;exact rfl;exact rfl;(intro hb);rotate_left;(intro hb);rotate_right)|(refine w0' ?_)|(apply zAx;exact rfl;exact rfl;exact rfl;(with_reducible exact zAY);exact rfl;exact rfl;exact rfl;exact rfl)|(apply zAK;exact rfl)|(apply zAQ;exact rfl)|apply zAI|apply zAP|apply zAM|apply en_r|apply eb_r|apply zAJ|(apply res1;exact rfl)
          all_goals try omega
          all_goals first | exact hz | (exfalso;omega)
        | true =>
          rw [hq] at hR
          repeat' first | apply en_n|apply zAH|apply zAB|apply zAF|apply w0|(apply kU (hd:=rfl);exact rfl;exact rfl)|(apply k1u (hd:=rfl);exact rfl;exact rfl)|(apply k0u (hd:=rfl);exact rfl;exact rfl)|(apply zA5;exact rfl;exact rfl;first|assumption|omega)|(apply zA9;exact rfl;exact rfl;first|assumption|omega)|(refine Y_eqsF t1 rfl rfl)|(refine Y_eqsF t2 rfl rfl)|(refine Y_eqsF t3 rfl rfl)|(refine Y_eqsF t4 rfl rfl)|(apply zBE;exact zE6;exact zDl;exact PD_d rfl rfl (PD_d rfl rfl zB0);exact rfl)|(refine zAV zB8 hR (zAX rfl zAG))|(apply aJ (hd:=rfl);(first|exact zAk rfl|exact Co_bb rfl rfl rfl|exact Co_nn rfl);exact rfl;(with_reducible exact zAW);assumption;omega;exact fun _=>rfl)|(apply zA4 (hd:=rfl) (hro:=rfl);(with_reducible exact zAp))|apply ay (hd:=rfl)|exact zAE rfl|exact zAC rfl|(apply zAf;exact rfl;(with_reducible exact zAY);exact rfl)|(apply zAl;exact rfl;(with_reducible exact zA0))|exact zHH rfl rfl|exact zEE rfl rfl|(apply zBC;exact rfl;exact rfl)|exact zBr rfl|exact zAi rfl rfl|exact zAh rfl rfl|(apply zAR;exact rfl;(with_reducible first|exact fn_0|exact fn_1|exact fn_2|exact fn_3))|(apply zAU;exact rfl;(with_reducible first|exact zAs|exact zAe|exact zBK|exact zAv);exact rfl;exact rfl)|(apply w1;exact rfl;exact rfl)|(apply gD;exact rfl;exact rfl;(intro hb);rotate_left;(intro hb);rotate_right)|(apply gN;exact rfl;exact rfl;(intro hb);rotate_left;(intro hb);rotate_right)|(refine w0' ?_)|(apply zAx;exact rfl;exact rfl;exact rfl;(with_reducible exact zAY);exact rfl;exact rfl;exact rfl;exact rfl)|(apply zAK;exact rfl)|(apply zAQ;exact rfl)|apply zAI|apply zAP|apply zAM|apply en_r|apply eb_n|apply eb_r|apply zAJ|(apply res1;exact rfl)
          all_goals try omega
          all_goals first | exact hz | (exfalso;apply hg;exact ⟨by omega,by omega,hq,by omega⟩)
    · have hli : ¬ (i : Int) < (L.length : Int):=by omega
      repeat' first | apply en_n|apply zAH|apply zAB|apply zAF|apply w0|(apply zBq;exact rfl;exact rfl;first|assumption|omega)|apply ay (hd:=rfl)|exact zAE rfl|exact zAC rfl|(apply zAl;exact rfl;(with_reducible exact zA0))|(apply zAQ;exact rfl)|apply zAM|apply zAt|apply en_e|apply eb_e|apply zAJ|(apply res1;exact rfl)
      refine zDB ?_
      symm
      refine zM5.2 ⟨hlen,hwh,List.all_eq_true.2 fun x hx=>?_⟩
      obtain ⟨j,hj⟩:=List.mem_iff_getElem?.1 hx
      exact hi2 j x (by have:=(List.getElem?_eq_some_iff.1 hj).1;omega) hj
end Go.Proofs.YtblomnkamngnbaaGreatDoor
