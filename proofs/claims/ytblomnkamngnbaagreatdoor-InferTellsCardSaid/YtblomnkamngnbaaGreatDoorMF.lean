/- Texts of this claim, merged: TypYE, RefD, RefE, InfYD. -/
import Derived.Test.YtblomnkamngnbaaGreatDoorME
namespace Go.Proofs.YtblomnkamngnbaaGreatDoor
open Go.Sx
theorem zI8 : zAT Tryz.prog 21 = true:=by kernel_rfl
attribute [local irreducible] zAT Program.underlying Ylds zBA alex zBc zBO awp zAj zBX RCall zA2 zBH zBQ zA8 zBT zBZ zBd zBr zBN
theorem zMn {L : List Nd} : okT L = true ↔ L.length ≤ 4000 ∧ zB7 L = true ∧ L.all zBh = true:=by simp [okT,and_assoc]
theorem zGv {L : List Nd} {i : Nat} {v : Nd} (h : L[i]? = some v) (hv : zBh v = false) : okT L = false:=by
  cases h2 : okT L with
  | false=>rfl
  | true =>
    have:=List.all_eq_true.1 (zMn.1 h2).2.2 v (List.mem_of_getElem? h)
    rw [hv] at this;cases this
set_option maxHeartbeats 4000000 in
theorem zNe (L : List Nd) (hL : L.length ≤ 2000000) (ht : ∀ x ∈ L,x.text.length ≤ 1000000) : zAj Tryz.prog 21 [zAc L] (bl (okT L)):=by
  refine zAd Tryz.func21 rfl Tryz.ntmps21 Tryz.results21 rfl ?_
  intro wb St0
  repeat' first | apply en_n|apply zAH|apply zAB|apply zAF|apply w0|(apply k0u (hd:=rfl);exact rfl;exact rfl)|(refine zAV zEZ (zHv L hL) (zAX rfl zAG))|apply ay (hd:=rfl)|exact zAE rfl|exact zAC rfl|(apply zAl;exact rfl;(with_reducible exact zA0))|exact zEk rfl rfl|exact zBo rfl|exact zAi rfl rfl|exact zAh rfl rfl|exact w1 rfl rfl|(apply gD;exact rfl;exact rfl;(intro hb);rotate_left;(intro hb);rotate_right)|exact zAK rfl|(apply zCZ;exact rfl;(intro hb);rotate_left;(intro hb);rotate_right)|apply zAI|apply zAP|apply zAM|apply en_r|apply zAJ|exact res1 rfl
  · refine zC4 ?_
    cases h2 : okT L with
    | false=>rfl
    | true=>have:=(zMn.1 h2).1;omega
  · refine zC4 ?_
    cases h2 : okT L with
    | false=>rfl
    | true=>have:=(zMn.1 h2).2.1;rw [this] at hb;cases hb
  · have hlen : L.length ≤ 4000:=by omega
    have hwh : zB7 L = true:=by simpa using hb
    refine zAr (α:=Nat) (fun i=>i ≤ L.length ∧ ∀ (j : Nat) u,j < i → L[j]? = some u → zBh u = true) (fun i=>[(0,.d (zAc L)),(3,.d (i64 (i : Int)))]) (fun _=>[]) (fun i=>L.length - i) 0 ⟨Nat.zero_le _,fun j u h=>by omega⟩
      (zAO (zAA rfl (zAA rfl zAa)) zAN rfl rfl) ?_
    rintro i ⟨hi1,hi2⟩
    rcases Nat.lt_or_ge i L.length with hlt | hge
    · obtain ⟨v,hv⟩ : ∃ v,L[i]? = some v:=⟨_,List.getElem?_eq_getElem hlt⟩
      have hli : (i : Int) < (L.length : Int):=by omega
      by_cases hk : v.kind = 31
      · skip
        repeat' first | apply en_n|apply zAH|apply zAB|apply zAF|apply w0|(apply k0u (hd:=rfl);exact rfl;exact rfl)|(apply zA5;exact rfl;exact rfl;first|assumption|omega)|(apply zBD;exact rfl;exact rfl;first|assumption|omega)|exact zGg rfl rfl|(apply aJ (hd:=rfl);(first|exact zAk rfl|exact Co_bb rfl rfl rfl|exact Co_nn rfl);exact rfl;(with_reducible exact zAW);assumption;omega;exact fun _=>rfl)|(apply zA4 (hd:=rfl) (hro:=rfl);(with_reducible exact zAp))|apply ay (hd:=rfl)|exact zAE rfl|exact zAC rfl|(apply zAf;exact rfl;(with_reducible exact zAY);exact rfl)|(apply zAl;exact rfl;(with_reducible exact zA0))|exact zCQ rfl rfl|exact zEk rfl rfl|exact zD6 rfl rfl|exact zBC rfl rfl|exact zAi rfl rfl|exact zAh rfl rfl|(apply zAR;exact rfl;(with_reducible first|exact fn_0|exact fn_1|exact fn_2|exact fn_3))|(apply zAU;exact rfl;(with_reducible first|exact zAs|exact zAe|exact zBI|exact zAv);exact rfl;exact rfl)|exact w1 rfl rfl|(apply gD;exact rfl;exact rfl;(intro hb);rotate_left;(intro hb);rotate_right)|(refine w0' ?_)|(apply zAx;exact rfl;exact rfl;exact rfl;(with_reducible exact zAY);exact rfl;exact rfl;exact rfl;exact rfl)|(apply zAz;exact rfl;(intro hb);rotate_left;(intro hb);rotate_right)|exact zAK rfl|apply zAI|apply zAP|apply zAM|apply zAt|apply en_r|apply en_e|apply eb_r|apply eb_e|apply zAJ|exact res1 rfl
        all_goals try omega
        all_goals first
          | (refine zC4 (zGv hv ?_).symm
             first
               | (simp_all [zBh];done)
               | (simp_all [zBh];omega))
          | (have hr : zBh v = true:=by (simp only [zBh,hk,if_true];first | (simp_all;done) | (simp_all;omega))
             exact ⟨i + 1,⟨by omega,fun j u hj hu=>by
            rcases Nat.lt_or_ge j i with h1 | h1
            · exact hi2 j u h1 hu
            · rw [show j = i by omega,hv] at hu;injection hu with hu;subst hu;exact hr⟩,by omega,zAO (zAA rfl (zAA rfl zAa)) zAN rfl rfl⟩)
      by_cases t1 : v.text = [45,62]
      · have hR:=zEU ⟨2,v.text,0,0⟩ (ht v (List.mem_of_getElem? hv))
        rw [show zDY ⟨2,v.text,0,0⟩ = false by rw [t1];decide +kernel] at hR
        by_cases hg : v.kind = 32 ∧ v.num = 0 ∧ v.kids = 2
        · obtain ⟨g1,g2,g3⟩:=hg
          have hr : zBh v = true:=by simp [zBh,g1,g2,g3,t1,arrT]
          repeat' first | apply en_n|apply zAH|apply zAB|apply zAF|apply w0|(apply kU (hd:=rfl);exact rfl;exact rfl)|(apply k1u (hd:=rfl);exact rfl;exact rfl)|(apply k0u (hd:=rfl);exact rfl;exact rfl)|(apply zA5;exact rfl;exact rfl;first|assumption|omega)|(apply zBD;exact rfl;exact rfl;first|assumption|omega)|(apply zA9;exact rfl;exact rfl;first|assumption|omega)|(apply zBS;exact rfl;exact rfl;first|assumption|omega)|(apply zHI;exact rfl;exact rfl;exact t1)|(apply zBE;exact zE1;exact zDf;exact PD_d rfl rfl (PD_d rfl rfl zBy);exact rfl)|(refine zAV zB5 hR (zAX rfl zAG))|(apply aJ (hd:=rfl);(first|exact zAk rfl|exact Co_bb rfl rfl rfl|exact Co_nn rfl);exact rfl;(with_reducible exact zAW);assumption;omega;exact fun _=>rfl)|(apply zA4 (hd:=rfl) (hro:=rfl);(with_reducible exact zAp))|apply ay (hd:=rfl)|exact zAE rfl|exact zAC rfl|(apply zAf;exact rfl;(with_reducible exact zAY);exact rfl)|(apply zAl;exact rfl;(with_reducible exact zA0))|exact zBC rfl rfl|exact zBo rfl|exact zAi rfl rfl|exact zAh rfl rfl|(apply zAR;exact rfl;(with_reducible first|exact fn_0|exact fn_1|exact fn_2|exact fn_3))|(apply zAU;exact rfl;(with_reducible first|exact zAs|exact zAe|exact zBI|exact zAv);exact rfl;exact rfl)|exact w1 rfl rfl|(refine w0' ?_)|(apply zAx;exact rfl;exact rfl;exact rfl;(with_reducible exact zAY);exact rfl;exact rfl;exact rfl;exact rfl)|exact zAK rfl|exact zAQ rfl|apply zAI|apply zAP|apply eb_n
          all_goals try omega
          exact ⟨i + 1,⟨by omega,fun j u hj hu=>by
            rcases Nat.lt_or_ge j i with h1 | h1
            · exact hi2 j u h1 hu
            · rw [show j = i by omega,hv] at hu;injection hu with hu;subst hu;exact hr⟩,by omega,zAO (zAA rfl (zAA rfl zAa)) zAN rfl rfl⟩
        · have hr : zBh v = false:=by
            simp only [zBh,hk,t1,arrT,intT,texT,refT];simp;omega
          have hz : bl false = bl (okT L):=by rw [zGv hv hr]
          repeat' first | apply en_n|apply zAH|apply zAB|apply zAF|apply w0|(apply kU (hd:=rfl);exact rfl;exact rfl)|(apply k1u (hd:=rfl);exact rfl;exact rfl)|(apply k0u (hd:=rfl);exact rfl;exact rfl)|(apply zA5;exact rfl;exact rfl;first|assumption|omega)|(apply zA9;exact rfl;exact rfl;first|assumption|omega)|(apply zB4;exact rfl;exact rfl;first|assumption|omega)|(apply zHI;exact rfl;exact rfl;exact t1)|(refine Y_eqsF (by rw [t1];decide) rfl rfl)|(apply zBE;exact zE1;exact zDf;exact PD_d rfl rfl (PD_d rfl rfl zBy);exact rfl)|(refine zAV zB5 hR (zAX rfl zAG))|(apply aJ (hd:=rfl);(first|exact zAk rfl|exact Co_bb rfl rfl rfl|exact Co_nn rfl);exact rfl;(with_reducible exact zAW);assumption;omega;exact fun _=>rfl)|(apply zA4 (hd:=rfl) (hro:=rfl);(with_reducible exact zAp))|apply ay (hd:=rfl)|exact zAE rfl|exact zAC rfl|(apply zAf;exact rfl;(with_reducible exact zAY);exact rfl)|(apply zAl;exact rfl;(with_reducible exact zA0))|exact zCz rfl rfl|exact zD6 rfl rfl|exact zBo rfl|exact zAi rfl rfl|exact zAh rfl rfl|(apply zAR;exact rfl;(with_reducible first|exact fn_0|exact fn_1|exact fn_2|exact fn_3))|(apply zAU;exact rfl;(with_reducible first|exact zAs|exact zAe|exact zBI|exact zAv);exact rfl;exact rfl)|exact w1 rfl rfl|(apply gD;exact rfl;exact rfl;(intro hb);rotate_left;(intro hb);rotate_right)|(refine w0' ?_)|(apply zAx;exact rfl;exact rfl;exact rfl;(with_reducible exact zAY);exact rfl;exact rfl;exact rfl;exact rfl)|exact zAK rfl|exact zAQ rfl|apply zAI|apply zAP|apply zAM|apply en_r|apply eb_r|apply zAJ|exact res1 rfl
          all_goals try omega
          all_goals first | exact hz | (exfalso;omega)
      by_cases t2 : v.text = [105,110,116]
      · have hR:=zEU ⟨2,v.text,0,0⟩ (ht v (List.mem_of_getElem? hv))
        rw [show zDY ⟨2,v.text,0,0⟩ = false by rw [t2];decide +kernel] at hR
        by_cases hg : v.kind = 32 ∧ v.num = 0 ∧ v.kids = 0
        · obtain ⟨g1,g2,g3⟩:=hg
          have hr : zBh v = true:=by simp [zBh,g1,g2,g3,t2,arrT,intT,texT]
          repeat' first | apply en_n|apply zAH|apply zAB|apply zAF|apply w0|(apply kU (hd:=rfl);exact rfl;exact rfl)|(apply k1u (hd:=rfl);exact rfl;exact rfl)|(apply k0u (hd:=rfl);exact rfl;exact rfl)|(apply zA5;exact rfl;exact rfl;first|assumption|omega)|(apply zBD;exact rfl;exact rfl;first|assumption|omega)|(apply zA9;exact rfl;exact rfl;first|assumption|omega)|(apply zBS;exact rfl;exact rfl;first|assumption|omega)|(apply zHI;exact rfl;exact rfl;exact t2)|(refine Y_eqsF (by rw [t2];decide) rfl rfl)|(apply zBE;exact zE1;exact zDf;exact PD_d rfl rfl (PD_d rfl rfl zBy);exact rfl)|(refine zAV zB5 hR (zAX rfl zAG))|(apply aJ (hd:=rfl);(first|exact zAk rfl|exact Co_bb rfl rfl rfl|exact Co_nn rfl);exact rfl;(with_reducible exact zAW);assumption;omega;exact fun _=>rfl)|(apply zA4 (hd:=rfl) (hro:=rfl);(with_reducible exact zAp))|apply ay (hd:=rfl)|exact zAE rfl|exact zAC rfl|(apply zAf;exact rfl;(with_reducible exact zAY);exact rfl)|(apply zAl;exact rfl;(with_reducible exact zA0))|exact zBC rfl rfl|exact zBo rfl|exact zAi rfl rfl|exact zAh rfl rfl|(apply zAR;exact rfl;(with_reducible first|exact fn_0|exact fn_1|exact fn_2|exact fn_3))|(apply zAU;exact rfl;(with_reducible first|exact zAs|exact zAe|exact zBI|exact zAv);exact rfl;exact rfl)|exact w1 rfl rfl|(refine w0' ?_)|(apply zAx;exact rfl;exact rfl;exact rfl;(with_reducible exact zAY);exact rfl;exact rfl;exact rfl;exact rfl)|exact zAK rfl|exact zAQ rfl|apply zAI|apply zAP|apply eb_n
          all_goals try omega
          exact ⟨i + 1,⟨by omega,fun j u hj hu=>by
            rcases Nat.lt_or_ge j i with h1 | h1
            · exact hi2 j u h1 hu
            · rw [show j = i by omega,hv] at hu;injection hu with hu;subst hu;exact hr⟩,by omega,zAO (zAA rfl (zAA rfl zAa)) zAN rfl rfl⟩
        · have hr : zBh v = false:=by
            simp only [zBh,hk,t2,arrT,intT,texT,refT];simp;omega
          have hz : bl false = bl (okT L):=by rw [zGv hv hr]
          repeat' first | apply en_n|apply zAH|apply zAB|apply zAF|apply w0|(apply kU (hd:=rfl);exact rfl;exact rfl)|(apply k1u (hd:=rfl);exact rfl;exact rfl)|(apply k0u (hd:=rfl);exact rfl;exact rfl)|(apply zA5;exact rfl;exact rfl;first|assumption|omega)|(apply zA9;exact rfl;exact rfl;first|assumption|omega)|(apply zB4;exact rfl;exact rfl;first|assumption|omega)|(apply zHI;exact rfl;exact rfl;exact t2)|(refine Y_eqsF (by rw [t2];decide) rfl rfl)|(apply zBE;exact zE1;exact zDf;exact PD_d rfl rfl (PD_d rfl rfl zBy);exact rfl)|(refine zAV zB5 hR (zAX rfl zAG))|(apply aJ (hd:=rfl);(first|exact zAk rfl|exact Co_bb rfl rfl rfl|exact Co_nn rfl);exact rfl;(with_reducible exact zAW);assumption;omega;exact fun _=>rfl)|(apply zA4 (hd:=rfl) (hro:=rfl);(with_reducible exact zAp))|apply ay (hd:=rfl)|exact zAE rfl|exact zAC rfl|(apply zAf;exact rfl;(with_reducible exact zAY);exact rfl)|(apply zAl;exact rfl;(with_reducible exact zA0))|exact zCz rfl rfl|exact zD6 rfl rfl|exact zBo rfl|exact zAi rfl rfl|exact zAh rfl rfl|(apply zAR;exact rfl;(with_reducible first|exact fn_0|exact fn_1|exact fn_2|exact fn_3))|(apply zAU;exact rfl;(with_reducible first|exact zAs|exact zAe|exact zBI|exact zAv);exact rfl;exact rfl)|exact w1 rfl rfl|(apply gD;exact rfl;exact rfl;(intro hb);rotate_left;(intro hb);rotate_right)|(refine w0' ?_)|(apply zAx;exact rfl;exact rfl;exact rfl;(with_reducible exact zAY);exact rfl;exact rfl;exact rfl;exact rfl)|exact zAK rfl|exact zAQ rfl|apply zAI|apply zAP|apply zAM|apply en_r|apply eb_r|apply zAJ|exact res1 rfl
          all_goals try omega
          all_goals first | exact hz | (exfalso;omega)
      by_cases t3 : v.text = [116,101,120,116]
      · have hR:=zEU ⟨2,v.text,0,0⟩ (ht v (List.mem_of_getElem? hv))
        rw [show zDY ⟨2,v.text,0,0⟩ = false by rw [t3];decide +kernel] at hR
        by_cases hg : v.kind = 32 ∧ v.num = 0 ∧ v.kids = 0
        · obtain ⟨g1,g2,g3⟩:=hg
          have hr : zBh v = true:=by simp [zBh,g1,g2,g3,t3,arrT,intT,texT]
          repeat' first | apply en_n|apply zAH|apply zAB|apply zAF|apply w0|(apply kU (hd:=rfl);exact rfl;exact rfl)|(apply k1u (hd:=rfl);exact rfl;exact rfl)|(apply k0u (hd:=rfl);exact rfl;exact rfl)|(apply zA5;exact rfl;exact rfl;first|assumption|omega)|(apply zBD;exact rfl;exact rfl;first|assumption|omega)|(apply zA9;exact rfl;exact rfl;first|assumption|omega)|(apply zBS;exact rfl;exact rfl;first|assumption|omega)|(apply zHI;exact rfl;exact rfl;exact t3)|(refine Y_eqsF (by rw [t3];decide) rfl rfl)|(apply zBE;exact zE1;exact zDf;exact PD_d rfl rfl (PD_d rfl rfl zBy);exact rfl)|(refine zAV zB5 hR (zAX rfl zAG))|(apply aJ (hd:=rfl);(first|exact zAk rfl|exact Co_bb rfl rfl rfl|exact Co_nn rfl);exact rfl;(with_reducible exact zAW);assumption;omega;exact fun _=>rfl)|(apply zA4 (hd:=rfl) (hro:=rfl);(with_reducible exact zAp))|apply ay (hd:=rfl)|exact zAE rfl|exact zAC rfl|(apply zAf;exact rfl;(with_reducible exact zAY);exact rfl)|(apply zAl;exact rfl;(with_reducible exact zA0))|exact zBC rfl rfl|exact zBo rfl|exact zAi rfl rfl|exact zAh rfl rfl|(apply zAR;exact rfl;(with_reducible first|exact fn_0|exact fn_1|exact fn_2|exact fn_3))|(apply zAU;exact rfl;(with_reducible first|exact zAs|exact zAe|exact zBI|exact zAv);exact rfl;exact rfl)|exact w1 rfl rfl|(refine w0' ?_)|(apply zAx;exact rfl;exact rfl;exact rfl;(with_reducible exact zAY);exact rfl;exact rfl;exact rfl;exact rfl)|exact zAK rfl|exact zAQ rfl|apply zAI|apply zAP|apply eb_n
          all_goals try omega
          exact ⟨i + 1,⟨by omega,fun j u hj hu=>by
            rcases Nat.lt_or_ge j i with h1 | h1
            · exact hi2 j u h1 hu
            · rw [show j = i by omega,hv] at hu;injection hu with hu;subst hu;exact hr⟩,by omega,zAO (zAA rfl (zAA rfl zAa)) zAN rfl rfl⟩
        · have hr : zBh v = false:=by
            simp only [zBh,hk,t3,arrT,intT,texT,refT];simp;omega
          have hz : bl false = bl (okT L):=by rw [zGv hv hr]
          repeat' first | apply en_n|apply zAH|apply zAB|apply zAF|apply w0|(apply kU (hd:=rfl);exact rfl;exact rfl)|(apply k1u (hd:=rfl);exact rfl;exact rfl)|(apply k0u (hd:=rfl);exact rfl;exact rfl)|(apply zA5;exact rfl;exact rfl;first|assumption|omega)|(apply zA9;exact rfl;exact rfl;first|assumption|omega)|(apply zB4;exact rfl;exact rfl;first|assumption|omega)|(apply zHI;exact rfl;exact rfl;exact t3)|(refine Y_eqsF (by rw [t3];decide) rfl rfl)|(apply zBE;exact zE1;exact zDf;exact PD_d rfl rfl (PD_d rfl rfl zBy);exact rfl)|(refine zAV zB5 hR (zAX rfl zAG))|(apply aJ (hd:=rfl);(first|exact zAk rfl|exact Co_bb rfl rfl rfl|exact Co_nn rfl);exact rfl;(with_reducible exact zAW);assumption;omega;exact fun _=>rfl)|(apply zA4 (hd:=rfl) (hro:=rfl);(with_reducible exact zAp))|apply ay (hd:=rfl)|exact zAE rfl|exact zAC rfl|(apply zAf;exact rfl;(with_reducible exact zAY);exact rfl)|(apply zAl;exact rfl;(with_reducible exact zA0))|exact zCz rfl rfl|exact zD6 rfl rfl|exact zBo rfl|exact zAi rfl rfl|exact zAh rfl rfl|(apply zAR;exact rfl;(with_reducible first|exact fn_0|exact fn_1|exact fn_2|exact fn_3))|(apply zAU;exact rfl;(with_reducible first|exact zAs|exact zAe|exact zBI|exact zAv);exact rfl;exact rfl)|exact w1 rfl rfl|(apply gD;exact rfl;exact rfl;(intro hb);rotate_left;(intro hb);rotate_right)|(refine w0' ?_)|(apply zAx;exact rfl;exact rfl;exact rfl;(with_reducible exact zAY);exact rfl;exact rfl;exact rfl;exact rfl)|exact zAK rfl|exact zAQ rfl|apply zAI|apply zAP|apply zAM|apply en_r|apply eb_r|apply zAJ|exact res1 rfl
          all_goals try omega
          all_goals first | exact hz | (exfalso;omega)
      by_cases t4 : v.text = [114,101,102]
      · have hR:=zEU ⟨2,v.text,0,0⟩ (ht v (List.mem_of_getElem? hv))
        rw [show zDY ⟨2,v.text,0,0⟩ = false by rw [t4];decide +kernel] at hR
        by_cases hg : v.kind = 32 ∧ v.num = 0 ∧ v.kids = 1
        · obtain ⟨g1,g2,g3⟩:=hg
          have hr : zBh v = true:=by simp [zBh,g1,g2,g3,t4,arrT,intT,texT,refT]
          repeat' first | apply en_n|apply zAH|apply zAB|apply zAF|apply w0|(apply k1u (hd:=rfl);exact rfl;exact rfl)|(apply zA5;exact rfl;exact rfl;first|assumption|omega)|(apply zBD;exact rfl;exact rfl;first|assumption|omega)|(apply zA9;exact rfl;exact rfl;first|assumption|omega)|(apply zBS;exact rfl;exact rfl;first|assumption|omega)|(apply zHI;exact rfl;exact rfl;exact t4)|(refine Y_eqsF (by rw [t4];decide) rfl rfl)|(apply zBE;exact zE1;exact zDf;exact PD_d rfl rfl (PD_d rfl rfl zBy);exact rfl)|(refine zAV zB5 hR (zAX rfl zAG))|(apply aJ (hd:=rfl);(first|exact zAk rfl|exact Co_bb rfl rfl rfl|exact Co_nn rfl);exact rfl;(with_reducible exact zAW);assumption;omega;exact fun _=>rfl)|(apply zA4 (hd:=rfl) (hro:=rfl);(with_reducible exact zAp))|apply ay (hd:=rfl)|exact zAE rfl|exact zAC rfl|(apply zAf;exact rfl;(with_reducible exact zAY);exact rfl)|(apply zAl;exact rfl;(with_reducible exact zA0))|exact zBC rfl rfl|exact zBo rfl|exact zAi rfl rfl|exact zAh rfl rfl|(apply zAR;exact rfl;(with_reducible first|exact fn_0|exact fn_1|exact fn_2|exact fn_3))|(apply zAU;exact rfl;(with_reducible first|exact zAs|exact zAe|exact zBI|exact zAv);exact rfl;exact rfl)|exact w1 rfl rfl|(refine w0' ?_)|(apply zAx;exact rfl;exact rfl;exact rfl;(with_reducible exact zAY);exact rfl;exact rfl;exact rfl;exact rfl)|exact zAK rfl|exact zAQ rfl|apply zAI|apply zAP|apply eb_n
          all_goals try omega
          exact ⟨i + 1,⟨by omega,fun j u hj hu=>by
            rcases Nat.lt_or_ge j i with h1 | h1
            · exact hi2 j u h1 hu
            · rw [show j = i by omega,hv] at hu;injection hu with hu;subst hu;exact hr⟩,by omega,zAO (zAA rfl (zAA rfl zAa)) zAN rfl rfl⟩
        · have hr : zBh v = false:=by
            simp only [zBh,hk,t4,arrT,intT,texT,refT];simp;omega
          have hz : bl false = bl (okT L):=by rw [zGv hv hr]
          repeat' first | apply en_n|apply zAH|apply zAB|apply zAF|apply w0|(apply kU (hd:=rfl);exact rfl;exact rfl)|(apply k1u (hd:=rfl);exact rfl;exact rfl)|(apply k0u (hd:=rfl);exact rfl;exact rfl)|(apply zA5;exact rfl;exact rfl;first|assumption|omega)|(apply zA9;exact rfl;exact rfl;first|assumption|omega)|(apply zHI;exact rfl;exact rfl;exact t4)|(refine Y_eqsF (by rw [t4];decide) rfl rfl)|(apply zBE;exact zE1;exact zDf;exact PD_d rfl rfl (PD_d rfl rfl zBy);exact rfl)|(refine zAV zB5 hR (zAX rfl zAG))|(apply aJ (hd:=rfl);(first|exact zAk rfl|exact Co_bb rfl rfl rfl|exact Co_nn rfl);exact rfl;(with_reducible exact zAW);assumption;omega;exact fun _=>rfl)|(apply zA4 (hd:=rfl) (hro:=rfl);(with_reducible exact zAp))|apply ay (hd:=rfl)|exact zAE rfl|exact zAC rfl|(apply zAf;exact rfl;(with_reducible exact zAY);exact rfl)|(apply zAl;exact rfl;(with_reducible exact zA0))|exact zCz rfl rfl|exact zD6 rfl rfl|exact zBC rfl rfl|exact zBo rfl|exact zAi rfl rfl|exact zAh rfl rfl|(apply zAR;exact rfl;(with_reducible first|exact fn_0|exact fn_1|exact fn_2|exact fn_3))|(apply zAU;exact rfl;(with_reducible first|exact zAs|exact zAe|exact zBI|exact zAv);exact rfl;exact rfl)|exact w1 rfl rfl|(apply gD;exact rfl;exact rfl;(intro hb);rotate_left;(intro hb);rotate_right)|(refine w0' ?_)|(apply zAx;exact rfl;exact rfl;exact rfl;(with_reducible exact zAY);exact rfl;exact rfl;exact rfl;exact rfl)|(apply zIb;exact rfl;(intro hb);rotate_left;(intro hb);rotate_right)|exact zAK rfl|exact zAQ rfl|apply zAI|apply zAP|apply zAM|apply en_r|apply eb_n|apply eb_r|apply zAJ|exact res1 rfl
          all_goals try omega
          all_goals first | exact hz | (exfalso;omega)
      have hR:=zEU ⟨2,v.text,0,0⟩ (ht v (List.mem_of_getElem? hv))
      by_cases hg : v.kind = 32 ∧ v.num = 0 ∧ zDY ⟨2,v.text,0,0⟩ = true ∧ v.kids ≤ 8
      · obtain ⟨g1,g2,g3,g4⟩:=hg
        have hr : zBh v = true:=by simp [zBh,g1,g2,g3,g4,t1,t2,t3,t4,arrT,intT,texT,refT]
        rw [g3] at hR
        repeat' first | apply en_n|apply zAH|apply zAB|apply zAF|apply w0|(apply k1u (hd:=rfl);exact rfl;exact rfl)|(apply zA5;exact rfl;exact rfl;first|assumption|omega)|(apply zSH;exact rfl;exact rfl;first|assumption|omega)|(apply zA9;exact rfl;exact rfl;first|assumption|omega)|(apply zBS;exact rfl;exact rfl;first|assumption|omega)|(refine Y_eqsF t1 rfl rfl)|(refine Y_eqsF t2 rfl rfl)|(refine Y_eqsF t3 rfl rfl)|(refine Y_eqsF t4 rfl rfl)|(apply zBE;exact zE1;exact zDf;exact PD_d rfl rfl (PD_d rfl rfl zBy);exact rfl)|(refine zAV zB5 hR (zAX rfl zAG))|(apply aJ (hd:=rfl);(first|exact zAk rfl|exact Co_bb rfl rfl rfl|exact Co_nn rfl);exact rfl;(with_reducible exact zAW);assumption;omega;exact fun _=>rfl)|(apply zA4 (hd:=rfl) (hro:=rfl);(with_reducible exact zAp))|apply ay (hd:=rfl)|exact zAE rfl|exact zAC rfl|(apply zAf;exact rfl;(with_reducible exact zAY);exact rfl)|(apply zAl;exact rfl;(with_reducible exact zA0))|exact zBC rfl rfl|exact zBo rfl|exact zAi rfl rfl|exact zAh rfl rfl|(apply zAR;exact rfl;(with_reducible first|exact fn_0|exact fn_1|exact fn_2|exact fn_3))|(apply zAU;exact rfl;(with_reducible first|exact zAs|exact zAe|exact zBI|exact zAv);exact rfl;exact rfl)|exact w1 rfl rfl|(refine w0' ?_)|(apply zAx;exact rfl;exact rfl;exact rfl;(with_reducible exact zAY);exact rfl;exact rfl;exact rfl;exact rfl)|exact zAK rfl|exact zAQ rfl|apply zAI|apply zAP|apply eb_n
        all_goals try omega
        exact ⟨i + 1,⟨by omega,fun j u hj hu=>by
            rcases Nat.lt_or_ge j i with h1 | h1
            · exact hi2 j u h1 hu
            · rw [show j = i by omega,hv] at hu;injection hu with hu;subst hu;exact hr⟩,by omega,zAO (zAA rfl (zAA rfl zAa)) zAN rfl rfl⟩
      · have hr : zBh v = false:=by
          simp only [zBh,t1,t2,t3,t4,arrT,intT,texT,refT]
          by_cases c1 : v.kind = 32 <;> by_cases c2 : v.num = 0 <;> cases c3 : zDY ⟨2,v.text,0,0⟩ <;> simp_all
        have hz : bl false = bl (okT L):=by rw [zGv hv hr]
        cases hq : zDY ⟨2,v.text,0,0⟩ with
        | false =>
          rw [hq] at hR
          repeat' first | apply en_n|apply zAH|apply zAB|apply zAF|apply w0|(apply kU (hd:=rfl);exact rfl;exact rfl)|(apply k1u (hd:=rfl);exact rfl;exact rfl)|(apply k0u (hd:=rfl);exact rfl;exact rfl)|(apply zA5;exact rfl;exact rfl;first|assumption|omega)|(apply zA9;exact rfl;exact rfl;first|assumption|omega)|(refine Y_eqsF t1 rfl rfl)|(refine Y_eqsF t2 rfl rfl)|(refine Y_eqsF t3 rfl rfl)|(refine Y_eqsF t4 rfl rfl)|(apply zBE;exact zE1;exact zDf;exact PD_d rfl rfl (PD_d rfl rfl zBy);exact rfl)|(refine zAV zB5 hR (zAX rfl zAG))|(apply aJ (hd:=rfl);(first|exact zAk rfl|exact Co_bb rfl rfl rfl|exact Co_nn rfl);exact rfl;(with_reducible exact zAW);assumption;omega;exact fun _=>rfl)|(apply zA4 (hd:=rfl) (hro:=rfl);(with_reducible exact zAp))|apply ay (hd:=rfl)|exact zAE rfl|exact zAC rfl|(apply zAf;exact rfl;(with_reducible exact zAY);exact rfl)|(apply zAl;exact rfl;(with_reducible exact zA0))|exact zD6 rfl rfl|exact zBo rfl|exact zAi rfl rfl|exact zAh rfl rfl|(apply zAR;exact rfl;(with_reducible first|exact fn_0|exact fn_1|exact fn_2))|(apply zAU;exact rfl;(with_reducible first|exact zAe|exact zBI|exact zAv);exact rfl;exact rfl)|exact w1 rfl rfl|(apply gD;exact rfl;exact rfl;(intro hb);rotate_left;(intro hb);rotate_right)|(refine w0' ?_)|(apply zAx;exact rfl;exact rfl;exact rfl;(with_reducible exact zAY);exact rfl;exact rfl;exact rfl;exact rfl)|exact zAK rfl|exact zAQ rfl|apply zAI|apply zAP|apply zAM|apply en_r|apply eb_r|apply zAJ|exact res1 rfl
          all_goals try omega
          all_goals first | exact hz | (exfalso;omega)
        | true =>
          rw [hq] at hR
          repeat' first | apply en_n|apply zAH|apply zAB|apply zAF|apply w0|(apply kU (hd:=rfl);exact rfl;exact rfl)|(apply k1u (hd:=rfl);exact rfl;exact rfl)|(apply k0u (hd:=rfl);exact rfl;exact rfl)|(apply zA5;exact rfl;exact rfl;first|assumption|omega)|(apply zA9;exact rfl;exact rfl;first|assumption|omega)|(refine Y_eqsF t1 rfl rfl)|(refine Y_eqsF t2 rfl rfl)|(refine Y_eqsF t3 rfl rfl)|(refine Y_eqsF t4 rfl rfl)|(apply zBE;exact zE1;exact zDf;exact PD_d rfl rfl (PD_d rfl rfl zBy);exact rfl)|(refine zAV zB5 hR (zAX rfl zAG))|(apply aJ (hd:=rfl);(first|exact zAk rfl|exact Co_bb rfl rfl rfl|exact Co_nn rfl);exact rfl;(with_reducible exact zAW);assumption;omega;exact fun _=>rfl)|(apply zA4 (hd:=rfl) (hro:=rfl);(with_reducible exact zAp))|apply ay (hd:=rfl)|exact zAE rfl|exact zAC rfl|(apply zAf;exact rfl;(with_reducible exact zAY);exact rfl)|(apply zAl;exact rfl;(with_reducible exact zA0))|exact zG9 rfl rfl|exact zD6 rfl rfl|exact zBC rfl rfl|exact zBo rfl|exact zAi rfl rfl|exact zAh rfl rfl|(apply zAR;exact rfl;(with_reducible first|exact fn_0|exact fn_1|exact fn_2|exact fn_3))|(apply zAU;exact rfl;(with_reducible first|exact zAs|exact zAe|exact zBI|exact zAv);exact rfl;exact rfl)|exact w1 rfl rfl|(apply gD;exact rfl;exact rfl;(intro hb);rotate_left;(intro hb);rotate_right)|(apply gN;exact rfl;exact rfl;(intro hb);rotate_left;(intro hb);rotate_right)|(refine w0' ?_)|(apply zAx;exact rfl;exact rfl;exact rfl;(with_reducible exact zAY);exact rfl;exact rfl;exact rfl;exact rfl)|exact zAK rfl|exact zAQ rfl|apply zAI|apply zAP|apply zAM|apply en_r|apply eb_n|apply eb_r|apply zAJ|exact res1 rfl
          all_goals try omega
          all_goals first | exact hz | (exfalso;apply hg;exact ⟨by omega,by omega,hq,by omega⟩)
    · have hli : ¬ (i : Int) < (L.length : Int):=by omega
      repeat' first | apply en_n|apply zAH|apply zAB|apply zAF|apply w0|(apply zBn;exact rfl;exact rfl;first|assumption|omega)|apply ay (hd:=rfl)|exact zAE rfl|exact zAC rfl|(apply zAl;exact rfl;(with_reducible exact zA0))|exact zAQ rfl|apply zAM|apply zAt|apply en_e|apply eb_e|apply zAJ|exact res1 rfl
      refine zC4 ?_
      symm
      refine zMn.2 ⟨hlen,hwh,List.all_eq_true.2 fun x hx=>?_⟩
      obtain ⟨j,hj⟩:=List.mem_iff_getElem?.1 hx
      exact hi2 j x (by have:=(List.getElem?_eq_some_iff.1 hj).1;omega) hj
end Go.Proofs.YtblomnkamngnbaaGreatDoor
namespace Go.Proofs.YtblomnkamngnbaaGreatDoor
open Go.Sx Go.RowKit
theorem zKx : zAT Tryz.prog 22 = true:=by kernel_rfl
theorem zIJ : zAT Tryz.prog 7 = true:=by kernel_rfl
theorem zFw : zAT Tryz.prog 9 = true:=by kernel_rfl
theorem zII : zAT Tryz.prog 6 = true:=by kernel_rfl
attribute [local irreducible] zAT Program.underlying Ylds zBA alex zBc zBO awp zAj zBX RCall zA2 zBH zBQ zA8 zBT zBZ zBd zBr zBN
set_option maxHeartbeats 4000000 in
theorem zNg (t : Tr) (hw : t.wf) (pat : Bool) (hL : t.fl.length ≤ 1000000) (hT : Txs t.fl) : zAj Tryz.prog 8 [zAc t.fl,bl pat] (i64 (chkT t pat)):=by
  have hW:=zHv t.fl (by omega)
  rw [zJS hw] at hW
  have hD:=zQp t.fl hL t.fl.length 0 (by omega) (by omega)
  rw [zLr (zJS hw) (by omega)] at hD
  have hn:=zIx t.fl hL hT t.sz 0 t pat (Nat.le_refl _) (.top hw)
  have hsz:=Tr.fl_len t
  refine zAd Tryz.func8 rfl Tryz.ntmps8 Tryz.results8 rfl ?_
  intro wb St0
  by_cases h1 : 4000 < t.sz ∨ 100 < zDo t.fl
  · rw [chkT,if_pos h1]
    generalize zDo t.fl = d at *
    by_cases h3 : 4000 < t.sz
    · have h5 : (t.fl.length : Int) > 4000:=by omega
      clear hn
      skip
      repeat' first | apply en_n|apply zAH|apply zAB|apply zAF|apply w0|(apply k0u (hd:=rfl);exact rfl;exact rfl)|(apply zEj;exact rfl;exact rfl;first|assumption|omega)|apply ay (hd:=rfl)|exact zAE rfl|exact zAC rfl|(apply zAl;exact rfl;(with_reducible exact zA0))|exact zAi rfl rfl|exact zAK rfl|apply zAM|apply en_r|apply zAJ|exact res1 rfl
      all_goals rfl
    · have h5 : ¬ (t.fl.length : Int) > 4000:=by omega
      have h6 : 100 < d:=by omega
      clear hn
      skip
      repeat' first | apply en_n|apply zAH|apply zAB|apply zAF|apply w0|(apply zEj;exact rfl;exact rfl;first|assumption|omega)|(apply zDi;exact rfl;exact rfl;first|assumption|omega)|(refine zAV zEZ hW (zAX rfl zAG))|(refine zAV zGT hD (zAX rfl (zAX rfl zAG)))|apply ay (hd:=rfl)|exact zAE rfl|exact zAC rfl|(apply zAl;exact rfl;(with_reducible exact zA0))|exact zBo rfl|exact zAh rfl rfl|exact w1 rfl rfl|exact zAK rfl|apply zAM|apply en_r|apply zAJ|exact res1 rfl
      all_goals rfl
  · have h3 : ¬ (t.fl.length : Int) > 4000:=by omega
    have h4 : ¬ 100 < zDo t.fl:=fun c=>h1 (.inr c)
    rw [chkT,if_neg h1]
    by_cases h2 : t.werr pat = 0
    · have htw:=zIw t.fl hL t.sz 0 t pat (Nat.le_refl _) (.top hw) h2
      rw [if_neg (by rw [h2];decide)]
      rw [h2] at hn
      generalize zDo t.fl = d at *
      clear h2 h1
      cases hb9 : t.tw with
      | true =>
        rw [hb9] at htw
        clear hb9
        skip
        repeat' first | apply en_n|apply zAH|apply zAB|apply zAF|apply w0|(apply zDi;exact rfl;exact rfl;first|assumption|omega)|(apply zBS;exact rfl;exact rfl;first|assumption|omega)|(refine zAV zEZ hW (zAX rfl zAG))|(refine zAV zGT hD (zAX rfl (zAX rfl zAG)))|(refine zAV zEa hn (zAX rfl (zAX rfl (zAX rfl zAG))))|(refine zAV zFc htw (zAX rfl (zAX rfl zAG)))|apply ay (hd:=rfl)|exact zAE rfl|exact zAC rfl|(apply zAl;exact rfl;(with_reducible exact zA0))|exact zBo rfl|exact zAh rfl rfl|exact w1 rfl rfl|exact zAK rfl|exact zAQ rfl|apply zAP|apply zAM|apply en_r|apply zAJ|exact res1 rfl
        all_goals rfl
      | false =>
        rw [hb9] at htw
        clear hb9
        skip
        repeat' first | apply en_n|apply zAH|apply zAB|apply zAF|apply w0|(apply zDi;exact rfl;exact rfl;first|assumption|omega)|(apply zBS;exact rfl;exact rfl;first|assumption|omega)|(refine zAV zEZ hW (zAX rfl zAG))|(refine zAV zGT hD (zAX rfl (zAX rfl zAG)))|(refine zAV zEa hn (zAX rfl (zAX rfl (zAX rfl zAG))))|(refine zAV zFc htw (zAX rfl (zAX rfl zAG)))|apply ay (hd:=rfl)|exact zAE rfl|exact zAC rfl|(apply zAl;exact rfl;(with_reducible exact zA0))|exact zBo rfl|exact zAh rfl rfl|exact w1 rfl rfl|exact zAQ rfl|apply zAP|apply zAM|apply zAJ|exact res1 rfl
        all_goals rfl
    · rw [if_pos h2]
      generalize t.werr pat = e at *
      generalize zDo t.fl = d at *
      clear h1
      skip
      repeat' first | apply en_n|apply zAH|apply zAB|apply zAF|apply w0|(apply zDi;exact rfl;exact rfl;first|assumption|omega)|(apply zB4;exact rfl;exact rfl;first|assumption|omega)|(refine zAV zEZ hW (zAX rfl zAG))|(refine zAV zGT hD (zAX rfl (zAX rfl zAG)))|(refine zAV zEa hn (zAX rfl (zAX rfl (zAX rfl zAG))))|apply ay (hd:=rfl)|exact zAE rfl|exact zAC rfl|(apply zAl;exact rfl;(with_reducible exact zA0))|exact zBo rfl|exact zAh rfl rfl|exact w1 rfl rfl|exact zAK rfl|exact zAQ rfl|apply zAP|apply zAM|apply en_r|apply zAJ|exact res1 rfl
      all_goals rfl
theorem zNh (L : List Nd) (pat : Bool) (hL : L.length ≤ 1000000) (hw : zB7 L = false) : zAj Tryz.prog 8 [zAc L,bl pat] (i64 60):=by
  have hW:=zHv L (by omega)
  rw [hw] at hW
  refine zAd Tryz.func8 rfl Tryz.ntmps8 Tryz.results8 rfl ?_
  intro wb St0
  repeat' first | apply en_n|apply zAH|apply zAB|apply zAF|apply w0|(apply k0u (hd:=rfl);exact rfl;exact rfl)|(refine zAV zEZ hW (zAX rfl zAG))|apply ay (hd:=rfl)|exact zAE rfl|exact zAC rfl|(apply zAl;exact rfl;(with_reducible exact zA0))|exact zEk rfl rfl|exact zBo rfl|exact zAi rfl rfl|exact zAh rfl rfl|exact w1 rfl rfl|(apply gD;exact rfl;exact rfl;(intro hb);rotate_left;(intro hb);rotate_right)|exact zAK rfl|apply zAM|apply en_r|apply zAJ|exact res1 rfl
  all_goals rfl
set_option maxHeartbeats 4000000 in
theorem zHx (L : List Nd) (hL : L.length ≤ 2000000) : ∀ (m n : Nat) (t : Tr),t.sz ≤ m → At L n t → t.werr false = 0 →
    zAj Tryz.prog 9 [zAc L,i64 (n : Int)] (bl t.val)
  | 0,n,t,hm,_,_=>by have:=zBR t;omega
  | m + 1,n,.mk x ks,hm,h,hw=>by
    have ih:=zHx L hL m
    have hx:=h.here
    have hlen:=h.len
    refine zAd Tryz.func9 rfl Tryz.ntmps9 Tryz.results9 rfl ?_
    intro wb St0
    have hpos : n < L.length:=(List.getElem?_eq_some_iff.1 hx).1
    by_cases hk : x.kind = 6
    · have h1:=zC0 hw
      have h5:=(zCL h1.1).2.2
      rw [hk] at h5
      have h6 : x.kids = 2:=by simpa [cntK] using h5
      have hkn:=h.kidn
      match ks,hkn,h,h1,hm with
      | [a,b],hkn,h,h1,hm =>
        have ha:=h.kid (i:=0) (k:=a) rfl
        have hb':=h.kid (i:=1) (k:=b) rfl
        rw [Tr.sz,szL,szL,szL] at hm
        have wa:=zBY (j:=0) h1.2 (k:=a) rfl
        have wb2:=zBY (j:=1) h1.2 (k:=b) rfl
        have hk0:=h.kids_get (i:=0) (by simp)
        have hk1:=h.kids_get (i:=1) (by simp)
        have hha:=ha.hd
        have va:=ih _ a (by omega) ha (by simpa [hk] using wa)
        have vb:=ih _ b (by omega) hb' (by simpa [hk] using wb2)
        have hkid:=zEo L (n : Int) hL
        have hsa : kidAt n [a,b] 0 < L.length:=(List.getElem?_eq_some_iff.1 hha).1
        clear h1 wa wb2 ih hw h5 hkn h6 ha hb' h
        generalize kidAt n [a,b] 0 = p0 at *
        generalize kidAt n [a,b] 1 = p1 at *
        generalize zBV L (n : Int) = KK at *
        have hv : Tr.val (.mk x [a,b]) = ((decide (a.hd.kind = 4) || decide (a.hd.kind = 6)) && (a.val && b.val)):=by
          rw [Tr.val.eq_1,if_neg (by omega),if_pos hk];rfl
        rw [hv]
        clear hv
        generalize a.val = av at *
        generalize b.val = bv at *
        generalize a.hd = y at *
        repeat' first | apply en_n|apply zAH|apply zAB|apply zAF|apply w0|(apply k1u (hd:=rfl);exact rfl;exact rfl)|(apply k0u (hd:=rfl);exact rfl;exact rfl)|(apply zBD;exact rfl;exact rfl;first|assumption|omega)|(apply zA9;exact rfl;exact rfl;first|assumption|omega)|(refine zAV zEr hkid (zAX rfl (zAX rfl zAG)))|(refine zAV zFw va (zAX rfl (zAX rfl zAG)))|(refine zAV zFw vb (zAX rfl (zAX rfl zAG)))|(apply aJ (hd:=rfl);(first|exact zAk rfl|exact Co_bb rfl rfl rfl|exact Co_nn rfl);exact rfl;(with_reducible first|exact zAW|exact zA7);assumption;omega;exact fun _=>rfl)|apply ay (hd:=rfl)|exact zAE rfl|exact zAC rfl|(apply zAy;exact rfl;(with_reducible exact fn_0))|(apply zAg;exact rfl;(with_reducible first|exact zAs|exact zAe))|exact zCz rfl rfl|exact zAi rfl rfl|exact zAh rfl rfl|exact w1 rfl rfl|(apply gD;exact rfl;exact rfl;(intro hb);rotate_left;(intro hb);rotate_right)|(apply g1;exact rfl;exact rfl;(intro hb);rotate_left;(intro hb);rotate_right)|exact zAK rfl|exact zAQ rfl|apply zAI|apply zAM|apply en_r|apply eb_r|apply zAJ|exact res1 rfl
        all_goals simp [*]
      | [],hkn,_,_,_=>simp at hkn;omega
      | [_],hkn,_,_,_=>simp at hkn;omega
      | _ :: _ :: _ :: _,hkn,_,_,_=>simp at hkn;omega
    · clear ih hw h
      have hv : Tr.val (.mk x ks) = decide (1 ≤ x.kind ∧ x.kind ≤ 5):=by
        cases ks <;> simp [Tr.val,hk]
      rw [hv]
      clear hv
      have hc : x.kind = 1 ∨ x.kind = 2 ∨ x.kind = 3 ∨ x.kind = 4 ∨ x.kind = 5 ∨ (x.kind ≠ 1 ∧ x.kind ≠ 2 ∧ x.kind ≠ 3 ∧ x.kind ≠ 4 ∧ x.kind ≠ 5):=by omega
      rcases hc with hc | hc | hc | hc | hc | ⟨h1,h2,h3,h4,h5⟩
      all_goals skip
      repeat' first | apply en_n|apply zAH|apply zAB|apply zAF|apply w0|(apply zBD;exact rfl;exact rfl;first|assumption|omega)|(apply zA9;exact rfl;exact rfl;first|assumption|omega)|(apply aJ (hd:=rfl);(first|exact zAk rfl|exact Co_bb rfl rfl rfl|exact Co_nn rfl);exact rfl;(with_reducible exact zAW);assumption;omega;exact fun _=>rfl)|apply ay (hd:=rfl)|exact zAE rfl|exact zAC rfl|(apply zAy;exact rfl;(with_reducible exact fn_0))|(apply zAg;exact rfl;(with_reducible exact zAe))|exact zAK rfl|exact zAQ rfl|apply zAI|apply zAP|apply zAM|apply en_r|apply eb_n|apply eb_r|apply zAJ|exact res1 rfl
      all_goals (refine zC4 ?_;simp;omega)
set_option maxHeartbeats 2000000 in
theorem zKa : ∀ (m : Nat) (T : Tr),T.sz ≤ m → T.sz ≤ 4000 → T.wf → (∀ n ∈ T.fl,zBh n = true) → zAj Tryz.prog 22 [zAc T.fl] (.tup [zFk (zBi T).1,zAc (zBi T).2])
  | 0,T,h,_,_,_=>by have:=zBR T;omega
  | m + 1,.mk x ks,h,hL,hw,hr=>by
    have hx:=(At.top hw).here
    have hfl : 0 < (Tr.mk x ks).fl.length:=(List.getElem?_eq_some_iff.1 hx).1
    refine zAd Tryz.func22 rfl Tryz.ntmps22 Tryz.results22 rfl ?_
    intro wb St0
    by_cases ht : x.text = arrT
    · obtain ⟨a,b,rfl⟩:=zJ6 hr hw ht
      rw [zDr ht]
      have hat:=At.top hw
      have hk0:=hat.kids_get (i:=0) (by simp)
      have hk1:=hat.kids_get (i:=1) (by simp)
      have ha:=hat.kid (i:=0) (k:=a) rfl
      have hb9:=hat.kid (i:=1) (k:=b) rfl
      have hLL : (Tr.mk x [a,b]).fl.length ≤ 2000000:=by rw [Tr.fl_len];omega
      have hkid:=zEo (Tr.mk x [a,b]).fl 0 hLL
      have ea : ¬ endF (Tr.mk x [a,b]).fl ((kidAt 0 [a,b] 0 : Nat) : Int) < 0:=by rw [ha.endF];omega
      have eb : ¬ endF (Tr.mk x [a,b]).fl ((kidAt 0 [a,b] 1 : Nat) : Int) < 0:=by rw [hb9.endF];omega
      have hsa:=zOo _ _ hLL ea
      have hsb:=zOo _ _ hLL eb
      rw [ha.sub] at hsa
      rw [hb9.sub] at hsb
      rw [Tr.sz,szL,szL,szL] at h hL
      have hw2 : b.wf:=(zCT.1 (by rw [Tr.wf] at hw;exact hw.2)) b (by simp)
      have hr2:=(zHd hr).2 b (by simp)
      have ih:=zKa m b (by omega) (by omega) hw2 hr2
      have hpl:=(zFW _ b (Nat.le_refl _)).1
      have hap : (zBi b).1.length ≤ 4000:=by omega
      clear hr2 hw2 eb ea ha hb9 hat hw hr h
      generalize (Tr.mk x [a,b]).fl = t at *
      generalize zBV t 0 = KK at *
      generalize kidAt 0 [a,b] 0 = p0 at *
      generalize kidAt 0 [a,b] 1 = p1 at *
      generalize (zBi b).1 = A at *
      generalize (zBi b).2 = to' at *
      generalize b.fl = bf at *
      generalize a.fl = af at *
      dsimp only
      rw [show arrT = [45,62] from rfl] at ht
      skip
      repeat' first | apply en_n|apply zAH|apply zAB|apply zAF|apply w0|(apply zTD;exact rfl;exact rfl;assumption)|(apply zUH (hd:=rfl) (hro:=rfl);(with_reducible exact zDu);(with_reducible exact zCP);(with_reducible exact zHS);exact rfl;exact rfl;exact zAX rfl zAG;exact rfl)|(apply aApp (id:=0) (hd:=rfl) (hro:=rfl);exact rfl;exact rfl;(first|exact zAk rfl|exact Co_bb rfl rfl rfl|exact Co_nn rfl);(first|exact rfl|exact (by simp));exact rfl;(with_reducible exact zDu);(with_reducible exact zCP);(with_reducible exact zMN);(with_reducible exact zLQ);(first|exact zCC (fun _=>rfl)|exact zCA rfl))|(refine zAV zEr hkid (zAX rfl (zAX rfl zAG)))|(refine zAV zPK hsa (zAX rfl (zAX rfl zAG)))|(refine zAV zPK hsb (zAX rfl (zAX rfl zAG)))|(refine zAV zKx ih (zAX rfl zAG))|(apply aJ (hd:=rfl);(first|exact zAk rfl|exact Co_bb rfl rfl rfl|exact Co_nn rfl);exact rfl;(with_reducible first|exact zAW|exact zA7);assumption;omega;exact fun _=>rfl)|apply ay (hd:=rfl)|exact zAE rfl|exact zAC rfl|(apply zAy;exact rfl;(with_reducible exact fn_1))|(apply zAg;exact rfl;(with_reducible first|exact zAs|exact zAv))|exact zBP rfl rfl|exact zAb rfl|exact zAm rfl|exact zAQ rfl|apply zAP|apply zAM|apply zAJ
      all_goals first | omega | skip
      · simp only [List.length_map,List.length_cons,List.length_nil];omega
      · refine zSa rfl rfl ?_ rfl rfl rfl
        simp;omega
    · rw [zEV ht]
      dsimp only
      generalize (Tr.mk x ks).fl = t at *
      rw [show arrT = [45,62] from rfl] at ht
      skip
      repeat' first | apply en_n|apply zAH|apply zAB|apply zAF|apply w0|(apply zTC;exact rfl;exact rfl;assumption)|(apply aJ (hd:=rfl);(first|exact zAk rfl|exact Co_bb rfl rfl rfl|exact Co_nn rfl);exact rfl;(with_reducible exact zAW);assumption;omega;exact fun _=>rfl)|apply ay (hd:=rfl)|exact zAE rfl|exact zAC rfl|(apply zAy;exact rfl;(with_reducible exact fn_1))|(apply zAg;exact rfl;(with_reducible exact zAv))|exact zAb rfl|exact zAK rfl|apply zAM|apply en_r|apply zAJ|exact zLq rfl rfl
      all_goals rfl
end Go.Proofs.YtblomnkamngnbaaGreatDoor
namespace Go.Proofs.YtblomnkamngnbaaGreatDoor
open Go.Sx Go.RowKit
theorem zM7 : zAT Tryz.prog 11 = true:=by kernel_rfl
theorem zJA : zAT Tryz.prog 13 = true:=by kernel_rfl
def txG (n : Nd) : Bool:=decide (n.text.length ≤ 60)
def fewG (s : Sg) : Bool:=decide (s.ty.length ≤ 40) && decide (s.name.length ≤ 60) && s.ty.all txG
def fewF (E : List Sg) (L : List Nd) : Bool:=(E.take 31).all fewG && (L.take 61).all txG && decide (E.length ≤ 30) && decide (L.length ≤ 60)
theorem zSt {E : List Sg} {L : List Nd} (h : fewF E L = true) : E.length ≤ 30 ∧ L.length ≤ 60 ∧ (∀ s ∈ E,s.ty.length ≤ 40 ∧ s.name.length ≤ 60 ∧ ∀ n ∈ s.ty,n.text.length ≤ 60) ∧ ∀ n ∈ L,n.text.length ≤ 60:=by
  simp only [fewF,Bool.and_eq_true,decide_eq_true_eq] at h
  obtain ⟨⟨⟨h1,h2⟩,h3⟩,h4⟩:=h
  rw [List.take_of_length_le (by omega),List.all_eq_true] at h1
  rw [List.take_of_length_le (by omega),List.all_eq_true] at h2
  refine ⟨h3,h4,fun s hs=>?_,fun n hn=>of_decide_eq_true (h2 n hn)⟩
  have h5:=h1 s hs
  simp only [fewG,Bool.and_eq_true,decide_eq_true_eq,List.all_eq_true] at h5
  exact ⟨h5.1.1,h5.1.2,fun n hn=>of_decide_eq_true (h5.2 n hn)⟩
theorem zT9 {L : List Nd} (h : okT L = true) : ckT L = 0:=by unfold ckT;rw [if_pos h]
theorem zIz : ∀ (m : Nat) (T : Tr),T.sz ≤ m → ∀ n ∈ (zBi T).2,n ∈ T.fl
  | 0,T,h=>by have:=zBR T;omega
  | m + 1,.mk x ks,h=>by
    match ks,h with
    | [a,b],h =>
      by_cases hx : x.text = arrT
      · rw [zDr hx]
        rw [Tr.sz,szL,szL,szL] at h
        intro n hn
        have:=zIz m b (by omega) n hn
        rw [Tr.fl,flL,flL,flL];simp [this]
      · rw [zEV hx];exact fun n hn=>hn
    | [],_=>intro n hn;rw [zBi] at hn;exact hn;rintro _ _ _ h;cases h
    | [_],_=>intro n hn;rw [zBi] at hn;exact hn;rintro _ _ _ h;cases h
    | _ :: _ :: _ :: _,_=>intro n hn;rw [zBi] at hn;exact hn;rintro _ _ _ h;cases h
theorem zNj {t : List Nd} (h : ckT t = 0) : ∀ n ∈ (zCG t).2,n ∈ t:=by
  obtain ⟨T,rfl,hw,_,_⟩:=zIU h
  rw [zDz hw h];exact zIz _ T (Nat.le_refl _)
theorem zKA {α : Type} {l : List α} {p : α → Bool} {i : Nat} {x : α} (h : l[i]? = some x) : (l.drop i).all p = (p x && (l.drop (i + 1)).all p):=by
  obtain ⟨hi,rfl⟩:=List.getElem?_eq_some_iff.1 h
  rw [List.drop_eq_getElem_cons hi,List.all_cons]
theorem zMY {α : Type} {l : List α} {n i : Nat} {x : α} (h : l[i]? = some x) (hi : i < n) : (l.take n)[i]? = some x:=by rw [List.getElem?_take,if_pos hi,h]
attribute [local irreducible] zAT Program.underlying Ylds zBA alex zBc zBO awp zAj zBX RCall zA2 zBH zBQ zA8 zBT zBZ zBd zBr zBN
theorem zQ6 (E : List Sg) (hE : E.length ≤ 1000000) : zAj Tryz.prog 11 [sigs E] (sigs E):=by
  refine zAd Tryz.func11 rfl Tryz.ntmps11 Tryz.results11 rfl ?_
  intro wb St0
  repeat' first | apply en_n|apply zAH|apply zAB|apply zAF|apply w0|(apply zMG (hd:=rfl) (hro:=rfl);(with_reducible exact zNF);(with_reducible exact zCI);(with_reducible exact zTO);exact rfl)|(apply aApp (hd:=rfl) (hro:=rfl);exact rfl;exact rfl;(first|exact zAk rfl|exact Co_bb rfl rfl rfl|exact Co_nn rfl);(first|exact rfl|(simp;done));exact rfl;(with_reducible exact zNF);(with_reducible exact zCI);(with_reducible exact zTT);(with_reducible exact zS6);(first|exact zCC (fun _=>rfl)|exact zCA rfl))|apply ay (hd:=rfl)|exact zAE rfl|exact zAb rfl|exact zAm rfl|apply zAM|apply zAJ
  all_goals first | (simp only [List.length_map];omega) | skip
  exact ⟨_,_,_,rfl,by simp,by rw [List.take_of_length_le (by simp)];rfl⟩
theorem zNp (L : List Nd) (hL : L.length ≤ 1000000) : zAj Tryz.prog 13 [zAc L] (zAc L):=by
  refine zAd Tryz.func13 rfl Tryz.ntmps13 Tryz.results13 rfl ?_
  intro wb St0
  repeat' first | apply en_n|apply zAH|apply zAB|apply zAF|apply w0|(apply zMG (hd:=rfl) (hro:=rfl);(with_reducible exact zBb);(with_reducible exact zAW);(with_reducible exact zDM);exact rfl)|(apply aApp (hd:=rfl) (hro:=rfl);exact rfl;exact rfl;(first|exact zAk rfl|exact Co_bb rfl rfl rfl|exact Co_nn rfl);(first|exact rfl|(simp;done));exact rfl;(with_reducible exact zBb);(with_reducible exact zAW);(with_reducible exact zEL);(with_reducible exact zDL);(first|exact zCC (fun _=>rfl)|exact zCA rfl))|apply ay (hd:=rfl)|exact zAE rfl|exact zAb rfl|exact zAm rfl|apply zAM|apply zAJ
  all_goals first | (simp only [List.length_map];omega) | skip
  exact ⟨_,_,_,rfl,by simp,by rw [List.take_of_length_le (by simp)];rfl⟩
set_option maxHeartbeats 4000000 in
theorem zOq (E : List Sg) (L : List Nd) : zAj Tryz.prog 6 [sigs E,zAc L] (bl (fewF E L)):=by
  refine zAd Tryz.func6 rfl Tryz.ntmps6 Tryz.results6 rfl ?_
  intro wb St0
  repeat' first | apply en_n|apply zAH|apply zAB|apply zAF|apply w0|apply ay (hd:=rfl)|exact zAC rfl|apply zAI
  refine zAr (α:=Nat) (fun i=>i ≤ (E.take 31).length ∧ (E.take 31).all fewG = ((E.take 31).drop i).all fewG) (fun i=>[(0,.d (sigs E)),(1,.d (zAc L)),(5,.d (i64 (i : Int)))]) (fun _=>[]) (fun i=>(E.take 31).length - i) 0 ⟨Nat.zero_le _,rfl⟩
    (zAO (zAA rfl (zAA rfl (Le_d rfl rfl zAa))) zAN rfl rfl) ?_
  rintro i ⟨hi1,hi2⟩
  have hl31 : (E.take 31).length = min 31 E.length:=List.length_take
  rcases Nat.lt_or_ge i (E.take 31).length with hlt | hge
  · obtain ⟨s,hs⟩ : ∃ s,E[i]? = some s:=⟨_,List.getElem?_eq_getElem (by omega)⟩
    have hs0 : E[((i : Nat) : Int).toNat]? = some s:=by rw [Int.toNat_natCast];exact hs
    have hli : (i : Int) < (E.length : Int):=by omega
    have hl3 : (i : Int) < 31:=by omega
    rw [zKA (zMY hs (by omega))] at hi2
    have no : fewG s = false → fewF E L = false:=fun h=>by rw [fewF,hi2,h];rfl
    by_cases c1 : s.ty.length ≤ 40
    case neg =>
      have : (s.ty.length : Int) > 40:=by omega
      rw [no (by rw [fewG,decide_eq_false c1];rfl)]
      clear no hi2
      skip
      repeat' first | apply en_n|apply zAH|apply zAB|apply zAF|apply w0|(apply k0u (hd:=rfl);exact rfl;exact rfl)|(apply zA5;exact rfl;exact rfl;first|assumption|omega)|(apply zEj;exact rfl;exact rfl;first|assumption|omega)|(apply aJ (hd:=rfl);(first|exact zAk rfl|exact Co_bb rfl rfl rfl|exact Co_nn rfl);exact rfl;(with_reducible exact zCI);assumption;omega;exact fun _=>rfl)|apply ay (hd:=rfl)|exact zAE rfl|exact zAC rfl|(apply zAy;exact rfl;(with_reducible exact fg_1))|(apply zAg;exact rfl;(with_reducible exact zAn))|(apply zAl;exact rfl;(with_reducible first|exact zD4|exact zA0))|exact zAi rfl rfl|exact w1 rfl rfl|exact zAK rfl|apply zAI|apply zAP|apply zAM|apply en_r|apply eb_r|apply zAJ|exact res1 rfl
      all_goals first | omega | rfl
    by_cases c2 : s.name.length ≤ 60
    case neg =>
      have : (s.name.length : Int) > 60:=by omega
      have : ¬ (s.ty.length : Int) > 40:=by omega
      rw [no (by rw [fewG,decide_eq_false c2,Bool.and_false];rfl)]
      clear no hi2
      skip
      repeat' first | apply en_n|apply zAH|apply zAB|apply zAF|apply w0|(apply zA5;exact rfl;exact rfl;first|assumption|omega)|(apply zEj;exact rfl;exact rfl;first|assumption|omega)|(apply zDi;exact rfl;exact rfl;first|assumption|omega)|(apply zDU;exact rfl;with_reducible exact ustr)|(apply aJ (hd:=rfl);(first|exact zAk rfl|exact Co_bb rfl rfl rfl|exact Co_nn rfl);exact rfl;(with_reducible exact zCI);assumption;omega;exact fun _=>rfl)|apply ay (hd:=rfl)|exact zAE rfl|exact zAC rfl|(apply zAy;exact rfl;(with_reducible first|exact fg_0|exact fg_1))|(apply zAg;exact rfl;(with_reducible first|exact zAn|exact zAv))|(apply zAl;exact rfl;(with_reducible first|exact zD4|exact zA0))|exact zAi rfl rfl|exact zAh rfl rfl|exact w1 rfl rfl|exact zAK rfl|apply zAI|apply zAP|apply zAM|apply en_r|apply eb_r|apply zAJ|exact res1 rfl
      all_goals first | omega | rfl
    have d1 : ¬ (s.ty.length : Int) > 40:=by omega
    have d2 : ¬ (s.name.length : Int) > 60:=by omega
    have eg : fewG s = s.ty.all txG:=by rw [fewG,decide_eq_true c1,decide_eq_true c2];rfl
    rw [eg] at hi2 no
    skip
    repeat' first | apply en_n|apply zAH|apply zAB|apply zAF|apply w0|(apply zA5;exact rfl;exact rfl;first|assumption|omega)|(apply zDi;exact rfl;exact rfl;first|assumption|omega)|(apply zDU;exact rfl;with_reducible exact ustr)|(apply aJ (hd:=rfl);(first|exact zAk rfl|exact Co_bb rfl rfl rfl|exact Co_nn rfl);exact rfl;(with_reducible exact zCI);assumption;omega;exact fun _=>rfl)|apply ay (hd:=rfl)|exact zAE rfl|exact zAC rfl|(apply zAy;exact rfl;(with_reducible first|exact fg_0|exact fg_1))|(apply zAg;exact rfl;(with_reducible first|exact zAn|exact zAv))|(apply zAl;exact rfl;(with_reducible first|exact zD4|exact zA0))|exact zAi rfl rfl|exact zAh rfl rfl|exact w1 rfl rfl|exact zAK rfl|exact zAQ rfl|apply zAI|apply zAP
    all_goals first | omega | skip
    refine zAr (α:=Nat) (fun j=>j ≤ s.ty.length ∧ s.ty.all txG = (s.ty.drop j).all txG) (fun j=>[(0,.d (sigs E)),(1,.d (zAc L)),(5,.d (i64 (i : Int))),(6,.d (i64 (j : Int)))]) (fun _=>[]) (fun j=>s.ty.length - j) 0 ⟨Nat.zero_le _,rfl⟩
      (zAO (zAA rfl (zAA rfl (zAA rfl (Le_d rfl rfl zAa)))) zAN rfl rfl) ?_
    rintro j ⟨hj1,hj2⟩
    rcases Nat.lt_or_ge j s.ty.length with hjlt | hjge
    · obtain ⟨n,hn⟩ : ∃ n,s.ty[j]? = some n:=⟨_,List.getElem?_eq_getElem hjlt⟩
      have hn0 : s.ty[((j : Nat) : Int).toNat]? = some n:=by rw [Int.toNat_natCast];exact hn
      have hlj : (j : Int) < (s.ty.length : Int):=by omega
      rw [zKA hn] at hj2
      by_cases c3 : n.text.length ≤ 60
      · have d3 : ¬ (n.text.length : Int) > 60:=by omega
        rw [show txG n = true from decide_eq_true c3,Bool.true_and] at hj2
        clear no hi2 eg
        skip
        repeat' first | apply en_n|apply zAH|apply zAB|apply zAF|apply w0|(apply zA5;exact rfl;exact rfl;first|assumption|omega)|(apply zDi;exact rfl;exact rfl;first|assumption|omega)|(apply zDU;exact rfl;with_reducible exact ustr)|(apply aJ (hd:=rfl);(first|exact zAk rfl|exact Co_bb rfl rfl rfl|exact Co_nn rfl);exact rfl;(with_reducible first|exact zCI|exact zAW);assumption;omega;exact fun _=>rfl)|apply ay (hd:=rfl)|exact zAE rfl|exact zAC rfl|(apply zAy;exact rfl;(with_reducible first|exact fg_1|exact fn_1))|(apply zAg;exact rfl;(with_reducible first|exact zAn|exact zAv))|(apply zAl;exact rfl;(with_reducible exact zA0))|exact zBC rfl rfl|exact zAK rfl|exact zAQ rfl|apply zAI|apply zAP|apply eb_n
        all_goals first | omega | skip
        all_goals exact ⟨j + 1,⟨by omega,hj2⟩,by omega,zAO (zAA rfl (zAA rfl (zAA rfl (zAA rfl zAa)))) zAN rfl rfl⟩
      · have d3 : (n.text.length : Int) > 60:=by omega
        rw [no (by rw [hj2,show txG n = false from decide_eq_false c3];rfl)]
        clear no hi2 eg hj2
        skip
        repeat' first | apply en_n|apply zAH|apply zAB|apply zAF|apply w0|(apply zA5;exact rfl;exact rfl;first|assumption|omega)|(apply zEj;exact rfl;exact rfl;first|assumption|omega)|(apply zDU;exact rfl;with_reducible exact ustr)|(apply aJ (hd:=rfl);(first|exact zAk rfl|exact Co_bb rfl rfl rfl|exact Co_nn rfl);exact rfl;(with_reducible first|exact zCI|exact zAW);assumption;omega;exact fun _=>rfl)|apply ay (hd:=rfl)|exact zAE rfl|exact zAC rfl|(apply zAy;exact rfl;(with_reducible first|exact fg_1|exact fn_1))|(apply zAg;exact rfl;(with_reducible first|exact zAn|exact zAv))|(apply zAl;exact rfl;(with_reducible exact zA0))|exact zAK rfl|apply zAI|apply zAP|apply zAM|apply en_r|apply eb_r|apply zAJ|exact res1 rfl
        all_goals first | omega | rfl
    · have hlj : ¬ (j : Int) < (s.ty.length : Int):=by omega
      rw [List.drop_of_length_le hjge] at hj2
      rw [hj2] at hi2
      clear no eg
      skip
      repeat' first | apply en_n|apply zAH|apply zAB|apply zAF|apply w0|(apply zBn;exact rfl;exact rfl;first|assumption|omega)|(apply aJ (hd:=rfl);(first|exact zAk rfl|exact Co_bb rfl rfl rfl|exact Co_nn rfl);exact rfl;(with_reducible exact zCI);assumption;omega;exact fun _=>rfl)|apply ay (hd:=rfl)|exact zAE rfl|exact zAC rfl|(apply zAy;exact rfl;(with_reducible exact fg_1))|(apply zAg;exact rfl;(with_reducible exact zAn))|(apply zAl;exact rfl;(with_reducible exact zA0))|exact zBC rfl rfl|exact zAQ rfl|apply zAt|apply en_e|apply eb_n|apply eb_e
      all_goals first | omega | skip
      all_goals exact ⟨i + 1,⟨by omega,by simpa using hi2⟩,by omega,zAO (zAA rfl (zAA rfl (zAA rfl zAa))) zAN rfl rfl⟩
  · rw [List.drop_of_length_le hge] at hi2
    have e1 : fewF E L = ((L.take 61).all txG && decide (E.length ≤ 30) && decide (L.length ≤ 60)):=by rw [fewF,hi2];rfl
    have hc : ¬ (i : Int) < (E.length : Int) ∨ ((i : Int) < (E.length : Int) ∧ ¬ (i : Int) < 31):=by omega
    rw [e1]
    clear e1 hi2
    have hl61 : (L.take 61).length = min 61 L.length:=List.length_take
    rcases hc with hc | ⟨hc,hc3⟩
    all_goals
      skip
      repeat' first | apply en_n|apply zAH|apply zAB|apply zAF|apply w0|(apply k1u (hd:=rfl);exact rfl;exact rfl)|(apply zA5;exact rfl;exact rfl;first|assumption|omega)|(apply zBn;exact rfl;exact rfl;first|assumption|omega)|apply ay (hd:=rfl)|exact zAE rfl|exact zAC rfl|(apply zAl;exact rfl;(with_reducible exact zD4))|exact zAi rfl rfl|exact zAh rfl rfl|exact w1 rfl rfl|exact zAQ rfl|apply zAI|apply zAt|apply en_e|apply eb_e
      refine zAr (α:=Nat) (fun j=>j ≤ (L.take 61).length ∧ (L.take 61).all txG = ((L.take 61).drop j).all txG) (fun j=>[(0,.d (sigs E)),(1,.d (zAc L)),(7,.d (i64 (j : Int)))]) (fun _=>[]) (fun j=>(L.take 61).length - j) 0 ⟨Nat.zero_le _,rfl⟩
        (zAO (zAA rfl (zAA rfl (Le_d rfl rfl zAa))) zAN rfl rfl) ?_
      rintro j ⟨hj1,hj2⟩
      rcases Nat.lt_or_ge j (L.take 61).length with hjlt | hjge
      · obtain ⟨n,hn⟩ : ∃ n,L[j]? = some n:=⟨_,List.getElem?_eq_getElem (by omega)⟩
        have hn0 : L[((j : Nat) : Int).toNat]? = some n:=by rw [Int.toNat_natCast];exact hn
        have hlj : (j : Int) < (L.length : Int):=by omega
        have hl6 : (j : Int) < 61:=by omega
        rw [zKA (zMY hn (by omega))] at hj2
        by_cases c3 : n.text.length ≤ 60
        · have d3 : ¬ (n.text.length : Int) > 60:=by omega
          rw [show txG n = true from decide_eq_true c3,Bool.true_and] at hj2
          skip
          repeat' first | apply en_n|apply zAH|apply zAB|apply zAF|apply w0|(apply zA5;exact rfl;exact rfl;first|assumption|omega)|(apply zDi;exact rfl;exact rfl;first|assumption|omega)|(apply zDU;exact rfl;with_reducible exact ustr)|(apply aJ (hd:=rfl);(first|exact zAk rfl|exact Co_bb rfl rfl rfl|exact Co_nn rfl);exact rfl;(with_reducible exact zAW);assumption;omega;exact fun _=>rfl)|apply ay (hd:=rfl)|exact zAE rfl|exact zAC rfl|(apply zAy;exact rfl;(with_reducible exact fn_1))|(apply zAg;exact rfl;(with_reducible exact zAv))|(apply zAl;exact rfl;(with_reducible exact zA0))|exact zBC rfl rfl|exact zAi rfl rfl|exact w1 rfl rfl|exact zAK rfl|exact zAQ rfl|apply zAI|apply zAP|apply eb_n
          all_goals first | omega | skip
          all_goals exact ⟨j + 1,⟨by omega,hj2⟩,by omega,zAO (zAA rfl (zAA rfl (zAA rfl zAa))) zAN rfl rfl⟩
        · have d3 : (n.text.length : Int) > 60:=by omega
          rw [show txG n = false from decide_eq_false c3,Bool.false_and] at hj2
          rw [hj2]
          clear hj2
          skip
          repeat' first | apply en_n|apply zAH|apply zAB|apply zAF|apply w0|(apply zA5;exact rfl;exact rfl;first|assumption|omega)|(apply zEj;exact rfl;exact rfl;first|assumption|omega)|(apply zDU;exact rfl;with_reducible exact ustr)|(apply aJ (hd:=rfl);(first|exact zAk rfl|exact Co_bb rfl rfl rfl|exact Co_nn rfl);exact rfl;(with_reducible exact zAW);assumption;omega;exact fun _=>rfl)|apply ay (hd:=rfl)|exact zAE rfl|exact zAC rfl|(apply zAy;exact rfl;(with_reducible exact fn_1))|(apply zAg;exact rfl;(with_reducible exact zAv))|(apply zAl;exact rfl;(with_reducible exact zA0))|exact zAi rfl rfl|exact w1 rfl rfl|exact zAK rfl|apply zAI|apply zAP|apply zAM|apply en_r|apply eb_r|apply zAJ|exact res1 rfl
          all_goals first | omega | rfl
      · rw [List.drop_of_length_le hjge] at hj2
        rw [hj2]
        clear hj2
        have hd : ¬ (j : Int) < (L.length : Int) ∨ ((j : Int) < (L.length : Int) ∧ ¬ (j : Int) < 61):=by omega
        rcases hd with hd | ⟨hd,hd3⟩
        all_goals
          by_cases c4 : (E.length : Int) ≤ 30 <;> by_cases c5 : (L.length : Int) ≤ 60
        all_goals skip
        repeat' first | apply en_n|apply zAH|apply zAB|apply zAF|apply w0|(apply k1u (hd:=rfl);exact rfl;exact rfl)|(apply zA5;exact rfl;exact rfl;first|assumption|omega)|(apply zBn;exact rfl;exact rfl;first|assumption|omega)|(apply zSH;exact rfl;exact rfl;first|assumption|omega)|(apply zUO;exact rfl;exact rfl;first|assumption|omega)|(apply zEj;exact rfl;exact rfl;first|assumption|omega)|(apply zDU;exact rfl;with_reducible exact ustr)|(apply aI (hd:=rfl);(first|exact zAk rfl|exact Co_bb rfl rfl rfl|exact Co_nn rfl);exact rfl;(with_reducible exact zAW);exact fun _=>rfl;rotate_left;intro v hv;rotate_right)|apply ay (hd:=rfl)|exact zAE rfl|exact zAC rfl|(apply zAy;exact rfl;(with_reducible exact fn_1))|(apply zAg;exact rfl;(with_reducible exact zAv))|(apply zAl;exact rfl;(with_reducible first|exact zD4|exact zA0))|exact zAi rfl rfl|exact zAh rfl rfl|exact w1 rfl rfl|exact zAK rfl|exact zAQ rfl|apply zAI|apply zAP|apply zAM|apply zAt|apply en_r|apply en_e|apply eb_r|apply eb_e|apply zAJ|exact res1 rfl
        all_goals first | omega | (refine zC4 ?_;simp;omega)
set_option maxHeartbeats 4000000 in
theorem zLs (E : List Sg) (hE : E.length ≤ 1000000) (hT : ∀ s ∈ E,s.ty.length ≤ 1000000 ∧ s.name.length ≤ 1000000 ∧ ∀ n ∈ s.ty,n.text.length ≤ 1000000) : zAj Tryz.prog 7 [sigs E] (bl (envF E)):=by
  refine zAd Tryz.func7 rfl Tryz.ntmps7 Tryz.results7 rfl ?_
  intro wb St0
  repeat' first | apply en_n|apply zAH|apply zAB|apply zAF|apply w0|apply ay (hd:=rfl)|exact zAC rfl|apply zAI
  refine zAr (α:=Nat) (fun i=>i ≤ E.length ∧ envF E = zL6 E i (E.drop i)) (fun i=>[(0,.d (sigs E)),(3,.d (i64 (i : Int)))]) (fun _=>[]) (fun i=>E.length - i) 0 ⟨Nat.zero_le _,rfl⟩
    (zAO (zAA rfl (Le_d rfl rfl zAa)) zAN rfl rfl) ?_
  rintro i ⟨hi,he⟩
  rcases Nat.lt_or_ge i E.length with hlt | hge
  · obtain ⟨s,hs⟩ : ∃ s,E[i]? = some s:=⟨_,List.getElem?_eq_getElem hlt⟩
    obtain ⟨hm1,hm2,hm3⟩:=hT _ (List.mem_of_getElem? hs)
    have hs0 : E[((i : Nat) : Int).toNat]? = some s:=by rw [Int.toNat_natCast];exact hs
    have hli : (i : Int) < (E.length : Int):=by omega
    rw [zJJ hs] at he
    have hnm:=zKe s.name hm2
    have hcn:=zJe s.name hm2
    have hrt:=zNe s.ty (by omega) hm3
    have hbB : envB E i s = ((!nameF s.name && !conF s.name) || decide (ckT s.ty ≠ 0) || (E.take i).any (fun x=>decide (x.name = s.name)) || (conF s.name && !conF (((zCG s.ty).2.map Nd.text).headD []))):=rfl
    have hid : i ≤ 1000000:=by omega
    by_cases c1 : (zD9 s.name || conF s.name) && okT s.ty
    case neg =>
      have hbt : envB E i s = true:=by
        rw [hbB]
        cases hna : zD9 s.name <;> cases hco : conF s.name <;> cases ho : okT s.ty <;> simp [hna,hco,ho,ckT] at c1 ⊢
      rw [hbt] at he
      simp only [Bool.not_true,Bool.false_and] at he
      rw [he]
      generalize zD9 s.name = na at *
      generalize conF s.name = co at *
      generalize okT s.ty = ot at *
      clear hbB hbt hT
      cases na <;> cases co <;> cases ot
      all_goals first
        | exact absurd rfl c1
        | skip
      all_goals skip
      repeat' first | apply en_n|apply zAH|apply zAB|apply zAF|apply w0|(apply k1u (hd:=rfl);exact rfl;exact rfl)|(apply k0u (hd:=rfl);exact rfl;exact rfl)|(apply zA5;exact rfl;exact rfl;first|assumption|omega)|(refine zAV zGU hnm (zAX rfl zAG))|(refine zAV zHZ hcn (zAX rfl zAG))|(refine zAV zI8 hrt (zAX rfl zAG))|(apply aJ (hd:=rfl);(first|exact zAk rfl|exact Co_bb rfl rfl rfl|exact Co_nn rfl);exact rfl;(with_reducible exact zCI);assumption;omega;exact fun _=>rfl)|(apply zA4 (hd:=rfl) (hro:=rfl);(with_reducible exact zMM))|apply ay (hd:=rfl)|exact zAE rfl|exact zAC rfl|(apply zAf;exact rfl;(with_reducible exact zFi);exact rfl)|(apply zAl;exact rfl;(with_reducible exact zD4))|exact zBo rfl|exact zAi rfl rfl|exact zAh rfl rfl|(apply zAR;exact rfl;(with_reducible first|exact fg_0|exact fg_1))|(apply zAU;exact rfl;(with_reducible first|exact zAn|exact zAv);exact rfl;exact rfl)|exact w1 rfl rfl|(refine w0' ?_)|(apply zAx;exact rfl;exact rfl;exact rfl;(with_reducible exact zFi);exact rfl;exact rfl;exact rfl;exact rfl)|exact zAK rfl|apply zAI|apply zAP|apply zAM|apply en_r|apply eb_r|apply zAJ|exact res1 rfl
      all_goals first | omega | rfl
    rw [Bool.and_eq_true] at c1
    have hck : ckT s.ty = 0:=zT9 c1.2
    obtain ⟨T,hTe,hw,hr,hs4⟩:=zIU hck
    have hpa:=zKa T.sz T (Nat.le_refl _) hs4 hw (by rw [hTe];exact hr)
    rw [← zDz hw (by rw [hTe];exact hck),hTe] at hpa
    obtain ⟨y,r,hy⟩:=zMl hck
    rw [hy] at hbB hpa
    simp only [List.map_cons,List.headD_cons] at hbB
    have hyt : y.text.length ≤ 1000000:=by
      have h5:=zNj hck
      rw [hy] at h5
      exact hm3 y (h5 y List.mem_cons_self)
    have hcn2:=zJe y.text hyt
    have hbB2 : envB E i s = ((E.take i).any (fun x=>decide (x.name = s.name)) || (conF s.name && !conF y.text)):=by
      rw [hbB,hck]
      have : (!nameF s.name && !conF s.name) = false:=by
        have h6:=c1.1
        cases h7 : zD9 s.name <;> cases h8 : conF s.name <;> simp [h7,h8] at h6 ⊢
      rw [this];simp
    rw [hbB2] at he
    have hc1:=c1.1
    rw [c1.2] at hrt
    generalize zD9 s.name = na at *
    generalize conF s.name = co at *
    generalize conF y.text = cy at *
    generalize (zCG s.ty).1 = P1 at *
    have hy0 : (y :: r)[0]? = some y:=rfl
    clear hbB hbB2 hT c1 hck hTe hr hw hs4 hy hyt
    obtain ⟨co0,hco0⟩ : ∃ c,c = co:=⟨co,rfl⟩
    cases na <;> cases co
    all_goals first
      | cases hc1
      | skip
    all_goals
      skip
      repeat' first | apply en_n|apply zAH|apply zAB|apply zAF|apply w0|(apply k1u (hd:=rfl);exact rfl;exact rfl)|(apply zA5;exact rfl;exact rfl;first|assumption|omega)|(refine zAV zGU hnm (zAX rfl zAG))|(refine zAV zHZ hcn (zAX rfl zAG))|(refine zAV zI8 hrt (zAX rfl zAG))|(apply aJ (hd:=rfl);(first|exact zAk rfl|exact Co_bb rfl rfl rfl|exact Co_nn rfl);exact rfl;(with_reducible exact zCI);assumption;omega;exact fun _=>rfl)|(apply zA4 (hd:=rfl) (hro:=rfl);(with_reducible exact zMM))|apply ay (hd:=rfl)|exact zAE rfl|exact zAC rfl|(apply zAf;exact rfl;(with_reducible exact zFi);exact rfl)|(apply zAl;exact rfl;(with_reducible exact zD4))|exact zBo rfl|exact zAi rfl rfl|exact zAh rfl rfl|(apply zAR;exact rfl;(with_reducible first|exact fg_0|exact fg_1))|(apply zAU;exact rfl;(with_reducible first|exact zAn|exact zAv);exact rfl;exact rfl)|exact w1 rfl rfl|(refine w0' ?_)|(apply zAx;exact rfl;exact rfl;exact rfl;(with_reducible exact zFi);exact rfl;exact rfl;exact rfl;exact rfl)|exact zAK rfl|exact zAQ rfl|apply zAI|apply zAP
    all_goals first | omega | skip
    all_goals
      refine zAr (α:=Nat) (fun k=>k ≤ i ∧ (E.take k).any (fun x=>decide (x.name = s.name)) = false) (fun k=>[(0,.d (sigs E)),(3,.d (i64 (i : Int))),(4,.ptr 0 0),(5,.d (bl co0)),(6,.d (i64 (k : Int)))]) (fun _=>[.box (s.cells.map .d)]) (fun k=>i - k) 0 ⟨Nat.zero_le _,by simp⟩
        (zAO (zAA rfl (zAA rfl (zAA rfl (Le_d rfl (by rw [hco0]) (Le_d rfl rfl zAa))))) (zAD rfl rfl zAN) rfl rfl) ?_
      rintro k ⟨hk1,hk2⟩
      subst hco0
      rcases Nat.lt_or_ge k i with hklt | hkge
      · obtain ⟨u,hu⟩ : ∃ u,E[k]? = some u:=⟨_,List.getElem?_eq_getElem (by omega)⟩
        have hu0 : E[((k : Nat) : Int).toNat]? = some u:=by rw [Int.toNat_natCast];exact hu
        have hlk : (k : Int) < (i : Int):=by omega
        have hlkl : (k : Int) < (E.length : Int):=by omega
        by_cases hun : u.name = s.name
        · have hany : (E.take i).any (fun x=>decide (x.name = s.name)) = true:=List.any_eq_true.2 ⟨u,List.mem_of_getElem? (i:=k) (by rw [List.getElem?_take,if_pos hklt];exact hu),by simp [hun]⟩
          rw [hany] at he
          simp only [Bool.true_or,Bool.not_true,Bool.false_and] at he
          rw [he]
          clear he hany
          skip
          repeat' first | apply en_n|apply zAH|apply zAB|apply zAF|apply w0|(apply zA5;exact rfl;exact rfl;first|assumption|omega)|(apply Go.Sx.Y_eqsT;exact rfl;exact rfl;assumption)|(apply aJ (hd:=rfl);(first|exact zAk rfl|exact Co_bb rfl rfl rfl|exact Co_nn rfl);exact rfl;(with_reducible exact zCI);assumption;omega;exact fun _=>rfl)|apply ay (hd:=rfl)|exact zAE rfl|exact zAC rfl|(apply zAy;exact rfl;(with_reducible exact fg_0))|(apply zAg;exact rfl;(with_reducible exact zAv))|(apply zAR;exact rfl;(with_reducible exact fg_0))|(apply zAU;exact rfl;(with_reducible exact zAv);exact rfl;exact rfl)|exact zAK rfl|apply zAI|apply zAP|apply zAM|refine zA6 (by kernel_rfl) (by kernel_rfl) ?_|apply en_r|apply eb_r|apply zAJ|exact res1 rfl
          all_goals first | omega | rfl
        · clear he
          skip
          repeat' first | apply en_n|apply zAH|apply zAB|apply zAF|apply w0|(apply zA5;exact rfl;exact rfl;first|assumption|omega)|(apply Go.Sx.Y_eqsF;exact rfl;exact rfl;assumption)|(apply aJ (hd:=rfl);(first|exact zAk rfl|exact Co_bb rfl rfl rfl|exact Co_nn rfl);exact rfl;(with_reducible exact zCI);assumption;omega;exact fun _=>rfl)|apply ay (hd:=rfl)|exact zAE rfl|exact zAC rfl|(apply zAy;exact rfl;(with_reducible exact fg_0))|(apply zAg;exact rfl;(with_reducible exact zAv))|exact zBC rfl rfl|(apply zAR;exact rfl;(with_reducible exact fg_0))|(apply zAU;exact rfl;(with_reducible exact zAv);exact rfl;exact rfl)|exact zAK rfl|exact zAQ rfl|apply zAI|apply zAP|refine zA6 (by kernel_rfl) (by kernel_rfl) ?_|apply eb_n
          all_goals first | omega | skip
          all_goals exact ⟨k + 1,⟨by omega,by rw [List.take_add_one,hu,Option.toList_some,List.any_append,hk2];simp [hun]⟩,by omega,zAO (zAA rfl (zAA rfl (zAA rfl (zAA rfl (zAA rfl zAa))))) (zAD rfl rfl zAN) rfl rfl⟩
      · have hki : k = i:=by omega
        rw [hki] at hk2
        rw [hk2,Bool.false_or] at he
        have hlk : ¬ (k : Int) < (i : Int):=by omega
        clear hki hk2
        have hcy : cy = true ∨ cy = false:=by cases cy <;> simp
        rcases hcy with rfl | rfl
        all_goals
          simp only [Bool.not_true,Bool.not_false,Bool.false_and,Bool.true_and] at he
          skip
          repeat' first | apply en_n|apply zAH|apply zAB|apply zAF|apply w0|(apply k1u (hd:=rfl);exact rfl;exact rfl)|(apply zBn;exact rfl;exact rfl;first|assumption|omega)|(refine zAV zKx hpa (zAX rfl zAG))|(refine zAV zHZ hcn2 (zAX rfl zAG))|(apply aJ (hd:=rfl);(first|exact zAk rfl|exact Co_bb rfl rfl rfl|exact Co_nn rfl);exact rfl;(with_reducible exact zAW);assumption;omega;exact fun _=>rfl)|apply ay (hd:=rfl)|exact zAE rfl|exact zAC rfl|(apply zAy;exact rfl;(with_reducible exact fn_1))|(apply zAg;exact rfl;(with_reducible exact zAv))|exact zBC rfl rfl|exact zBo rfl|exact zAi rfl rfl|exact zAh rfl rfl|exact zBP rfl rfl|(apply zAR;exact rfl;(with_reducible exact fg_1))|(apply zAU;exact rfl;(with_reducible exact zAn);exact rfl;exact rfl)|exact w1 rfl rfl|exact zAK rfl|exact zAQ rfl|apply zAP|apply zAM|apply zAt|apply en_r|apply en_e|apply eb_n|apply eb_r|apply eb_e|apply zAJ|exact res1 rfl
        all_goals first
          | omega
          | exact ⟨i + 1,⟨by omega,he⟩,by omega,zAO (zAA rfl (zAA rfl zAa)) zAN rfl rfl⟩
          | rw [he]
  · have hli : ¬ (i : Int) < (E.length : Int):=by omega
    have : envF E = true:=by rw [he,List.drop_of_length_le hge];rfl
    rw [this]
    skip
    repeat' first | apply en_n|apply zAH|apply zAB|apply zAF|apply w0|(apply zBn;exact rfl;exact rfl;first|assumption|omega)|apply ay (hd:=rfl)|exact zAE rfl|exact zAC rfl|(apply zAl;exact rfl;(with_reducible exact zD4))|exact zAQ rfl|apply zAM|apply zAt|apply en_e|apply eb_e|apply zAJ|exact res1 rfl
    all_goals rfl
end Go.Proofs.YtblomnkamngnbaaGreatDoor
namespace Go.Proofs.YtblomnkamngnbaaGreatDoor
open Go.Sx Go.RowKit
attribute [local irreducible] zAT Program.underlying Ylds zBA alex zBc zBO awp zAj zBX RCall zA2 zBH zBQ zA8 zBT zBZ zBd zBr zBN
set_option maxHeartbeats 8000000 in
theorem zRl (E : List Sg) (L : List Nd) : zAj Tryz.prog 3 [sigs E,zAc L] (bl true):=by
  have hF:=zOq E L
  cases hf : fewF E L with
  | false =>
    rw [hf] at hF
    refine zAd Tryz.func3 rfl Tryz.ntmps3 Tryz.results3 rfl ?_
    intro wb St0
    repeat' first | apply en_n|apply zAH|apply zAB|apply zAF|apply w0|(refine zAV zG0 zGy zAG)|(refine zAV zII hF (zAX rfl (zAX rfl zAG)))|apply ay (hd:=rfl)|exact zAE rfl|exact zAC rfl|exact zBo rfl|exact zAh rfl rfl|exact w1 rfl rfl|exact zAK rfl|apply zAM|apply en_r|apply zAJ|exact res1 rfl
    all_goals rfl
  | true =>
    rw [hf] at hF
    obtain ⟨h1,h2,h3,h4⟩:=zSt hf
    have hC:=zLs E (by omega) (fun s hs=>by obtain ⟨a,b,c⟩:=h3 s hs;exact ⟨by omega,by omega,fun n hn=>by have:=c n hn;omega⟩)
    have hI:=zFE E (by omega) (fun s hs=>by have:=(h3 s hs).1;omega)
    have hO:=zQ6 E (by omega)
    have hN:=zNp L (by omega)
    have key : ∃ k v,zAj Tryz.prog 8 [zAc L,bl false] (i64 k) ∧ (k = 0 → zAj Tryz.prog 9 [zAc L,i64 0] (bl v)) ∧ zAj Tryz.prog 12 [zAc L] (bl (decide (k = 0) && v)):=by
      cases hw : zB7 L with
      | false=>exact ⟨60,false,zNh L false (by omega) hw,(fun c=>absurd c (by decide)),zPE L (by omega) hw⟩
      | true =>
        obtain ⟨t,rfl,hwf⟩:=zFS.1 hw
        refine ⟨chkT t false,t.val,zNg t hwf false (by omega) (fun x hx=>by have:=h4 x hx;omega),fun h0=>?_,zID t hwf (by omega)⟩
        exact zHx t.fl (by omega) t.sz 0 t (Nat.le_refl _) (.top hwf) (zPp h0).2.2.1
    obtain ⟨k,v,k1',k2,k3⟩:=key
    clear h3 h4 hf
    have body : ∀ (b : Bool),zAj Tryz.prog 7 [sigs E] (bl b) → zAj Tryz.prog 10 [sigs E] (i64 (if b then 0 else 110)) → zAj Tryz.prog 3 [sigs E,zAc L] (bl true):=by
      intro b hC hI
      by_cases h0 : k = 0
      · have k4:=k2 h0
        clear k2
        subst h0
        rw [decide_eq_true rfl,Bool.true_and] at k3
        cases b <;> cases v
        all_goals
          first
            | rw [if_pos rfl] at hI
            | rw [if_neg (by decide)] at hI
          refine zAd Tryz.func3 rfl Tryz.ntmps3 Tryz.results3 rfl ?_
          intro wb St0
          repeat' first | apply en_n|apply zAH|apply zAB|apply zAF|apply w0|(apply zBD;exact rfl;exact rfl;first|assumption|omega)|(apply zSK;exact rfl;exact rfl;with_reducible exact zF8)|(refine zAV zG0 zGy zAG)|(refine zAV zII hF (zAX rfl (zAX rfl zAG)))|(refine zAV zIJ hC (zAX rfl zAG))|(refine zAV zI9 k1' (zAX rfl (zAX rfl zAG)))|(refine zAV zFw k4 (zAX rfl (zAX rfl zAG)))|(refine zAV zM7 hO (zAX rfl zAG))|(refine zAV zD3 hI (zAX rfl zAG))|(refine zAV zJA hN (zAX rfl zAG))|(refine zAV zGV k3 (zAX rfl zAG))|apply ay (hd:=rfl)|exact zAE rfl|exact zAC rfl|exact zBo rfl|exact zAi rfl rfl|exact zAh rfl rfl|exact w1 rfl rfl|exact zAK rfl|exact zAQ rfl|apply zAP|apply zAM|apply zAJ|exact res1 rfl
        all_goals rfl
      · rw [decide_eq_false h0,Bool.false_and] at k3
        clear k2
        cases b
        all_goals
          first
            | rw [if_pos rfl] at hI
            | rw [if_neg (by decide)] at hI
          refine zAd Tryz.func3 rfl Tryz.ntmps3 Tryz.results3 rfl ?_
          intro wb St0
          repeat' first | apply en_n|apply zAH|apply zAB|apply zAF|apply w0|(apply k1u (hd:=rfl);exact rfl;exact rfl)|(apply zBD;exact rfl;exact rfl;first|assumption|omega)|(apply zA9;exact rfl;exact rfl;first|assumption|omega)|(apply zSK;exact rfl;exact rfl;with_reducible exact zF8)|(refine zAV zG0 zGy zAG)|(refine zAV zII hF (zAX rfl (zAX rfl zAG)))|(refine zAV zIJ hC (zAX rfl zAG))|(refine zAV zI9 k1' (zAX rfl (zAX rfl zAG)))|(refine zAV zM7 hO (zAX rfl zAG))|(refine zAV zD3 hI (zAX rfl zAG))|(refine zAV zJA hN (zAX rfl zAG))|(refine zAV zGV k3 (zAX rfl zAG))|apply ay (hd:=rfl)|exact zAE rfl|exact zAC rfl|exact zBo rfl|exact zAi rfl rfl|exact zAh rfl rfl|exact w1 rfl rfl|exact zAK rfl|exact zAQ rfl|apply zAP|apply zAM|apply zAJ|exact res1 rfl
        all_goals rfl
    exact body _ hC hI
end Go.Proofs.YtblomnkamngnbaaGreatDoor
