/- Texts of this claim, merged: InfD. -/
import Derived.Test.YtblomnkamngnbaaGreatDoorMAQ
import Derived.Test.YtblomnkamngnbaaGreatDoorMAZ
namespace Go.Proofs.YtblomnkamngnbaaGreatDoor
open Go.Sx
theorem zJU {E : List Sg} {i : Nat} {s : Sg} (h : E[i]? = some s) : zMN E i (E.drop i) = (!envB E i s && zMN E (i + 1) (E.drop (i + 1))):=by
  obtain ⟨hi,rfl⟩:=List.getElem?_eq_some_iff.1 h
  rw [List.drop_eq_getElem_cons hi,zMN]
theorem zM3 {t : List Nd} (h : ckT t = 0) : ∃ x r,(zCG t).2 = x :: r:=by
  obtain ⟨T,rfl,hw,hr,hs⟩:=zIf h
  rw [zD6 hw h]
  have key : ∀ (m : Nat) (T : Tr),T.sz ≤ m → ∃ x r,(zBl T).2 = x :: r:=by
    intro m
    induction m with
    | zero=>intro T h;have:=zBS T;omega
    | succ m ih =>
      intro T h
      match T,h with
      | .mk x [a,b],h =>
        by_cases hx : x.text = arrT
        · rw [zDy hx];exact ih b (by rw [Tr.sz,szL,szL,szL] at h;omega)
        · rw [zEa hx];exact ⟨x,_,by rw [Tr.fl]⟩
      | .mk x [],h=>exact ⟨x,_,by rw [zBl,Tr.fl];rintro _ _ _ h;cases h⟩
      | .mk x [_],h=>exact ⟨x,_,by rw [zBl,Tr.fl];rintro _ _ _ h;cases h⟩
      | .mk x (_ :: _ :: _ :: _),h=>exact ⟨x,_,by rw [zBl,Tr.fl];rintro _ _ _ h;cases h⟩
  exact key _ T (Nat.le_refl _)
attribute [local irreducible] zAT Program.underlying Ylds zBA alex zBe zBP awp zAj zBZ zBk zA2 zBH zBR zA8 zBV zBb zBf zBu zBO VCall
set_option maxHeartbeats 4000000 in
theorem zFK (E : List Sg) (hE : E.length ≤ 1000000) (hT : ∀ s ∈ E,s.ty.length ≤ 1000000) : zAj Tryz.prog 10 [sigs E] (i64 (if envF E then 0 else 110)):=by
  refine zAd Tryz.func10 rfl Tryz.ntmps10 Tryz.results10 rfl ?_
  intro wb St0
  repeat' first | apply en_n|apply zAH|apply zAB|apply zAF|apply w0|apply ay (hd:=rfl)|exact zAE rfl|exact zAC rfl|(apply zAl;exact rfl;(with_reducible exact zEC))|apply zAI
  refine zAr (α:=Nat) (fun i=>i ≤ E.length ∧ envF E = zMN E i (E.drop i)) (fun i=>[(0,.d (sigs E)),(8,.d (sigs E)),(9,.d (i64 (E.length : Int))),(10,.d (i64 (i : Int)))]) (fun _=>[]) (fun i=>E.length - i) 0 ⟨Nat.zero_le _,rfl⟩
    (zAO (zAA rfl (zAA rfl (Le_d rfl rfl (zAA rfl zAa)))) zAN rfl rfl) ?_
  rintro i ⟨hi,he⟩
  rcases Nat.lt_or_ge i E.length with hlt | hge
  · have hs : E[i]? = some E[i]:=List.getElem?_eq_getElem hlt
    have hm:=hT _ (List.getElem_mem hlt)
    generalize E[i] = s at *
    have hli : (i : Int) < (E.length : Int):=by omega
    rw [zJU hs] at he
    have hck:=zCR s.ty (by omega)
    have hcf:=zVO 28 (str s.name) (zAc s.ty) (fun u=>decide (u.name = s.name)) zOK (zOI s) ((E.take ((i : Nat) : Int).toNat)) (by rw [List.length_take];omega)
    have hpf:=zFW s.ty (by omega)
    have hnm:=zMv s.name
    have hcn:=zL6 s.name
    have hbB : envB E i s = ((!zDe s.name && !conF s.name) || decide (ckT s.ty ≠ 0) || (E.take ((i : Nat) : Int).toNat).any (fun x=>decide (x.name = s.name)) || (conF s.name && !conF (((zCG s.ty).2.map Nd.text).headD []))):=rfl
    by_cases hc : ckT s.ty = 0
    · obtain ⟨y,r,hy⟩:=zM3 hc
      rw [hy] at hbB hpf
      simp only [List.map_cons,List.headD_cons] at hbB
      have hcn2:=zL6 y.text
      rw [hc] at hbB hck
      generalize hna : zDe s.name = na at *
      generalize hco : conF s.name = co at *
      generalize hcy : conF y.text = cy at *
      generalize hcA : ((E.take ((i : Nat) : Int).toNat).any fun x=>decide (x.name = s.name)) = cA at *
      have hy0 : (y :: r)[0]? = some y:=rfl
      clear hy hna hco hcy hcA
      cases na <;> cases co <;> cases cy <;> cases cA
      all_goals
        rw [hbB] at he
        simp only [Bool.not_false,Bool.not_true,Bool.and_true,Bool.true_and,Bool.and_false,Bool.false_and,Bool.or_true,Bool.or_false,ne_eq,not_true,decide_false] at he
      repeat' first | apply en_n|apply zAH|apply zAB|apply zAF|apply w0|(apply k1u (hd:=rfl);exact rfl;exact rfl)|(apply k0u (hd:=rfl);exact rfl;exact rfl)|(apply zA5;exact rfl;exact rfl;first|assumption|omega)|(apply zBU;exact rfl;exact rfl;first|assumption|omega)|(refine zAV zJ7 hnm (zAX rfl zAG))|(refine zAV zJ8 hcn (zAX rfl zAG))|(refine zAV zJ8 hcn2 (zAX rfl zAG))|(refine zAV zCK hck (zAX rfl zAG))|(refine zAV zEx hpf (zAX rfl zAG))|(refine zBB [0] [] rfl rfl zUh (hcf) rfl ?_ rfl (by decide) rfl rfl rfl rfl;(repeat (refine zAL rfl ?_));exact zAS)|(apply aJ (hd:=rfl);(first|exact zAk rfl|exact Co_bb rfl rfl rfl|exact Co_nn rfl);exact rfl;(with_reducible first|exact zCL|exact zAW);assumption;omega;exact fun _=>rfl)|(apply zA4 (hd:=rfl) (hro:=rfl);(with_reducible exact zMe))|apply ay (hd:=rfl)|exact zAE rfl|exact zAC rfl|(apply zAy;exact rfl;(with_reducible exact fn_1))|(apply zAg;exact rfl;(with_reducible exact zAv))|(apply zAf;exact rfl;(with_reducible exact zFp);exact rfl)|(apply zBC;exact rfl;exact rfl)|exact zBr rfl|exact zAi rfl rfl|exact zAh rfl rfl|exact zBQ rfl rfl|exact zBF rfl|exact zCv rfl|(apply zAR;exact rfl;(with_reducible first|exact fg_0|exact fg_1))|(apply zAU;exact rfl;(with_reducible first|exact zAn|exact zAv);exact rfl;exact rfl)|(apply zU6;(first|exact zAk rfl|exact Co_bb rfl rfl rfl|exact Co_nn rfl);(with_reducible exact zCL);exact rfl;exact fun _=>rfl)|exact zGA rfl|(apply w1;exact rfl;exact rfl)|(refine w0' ?_)|(apply zAx;exact rfl;exact rfl;exact rfl;(with_reducible exact zFp);exact rfl;exact rfl;exact rfl;exact rfl)|(apply zAK;exact rfl)|(apply zAQ;exact rfl)|apply zAI|apply zAP|apply zAM|apply en_r|apply eb_n|apply eb_r|apply zAJ|(apply res1;exact rfl)
      all_goals first
        | (rw [he];rfl)
        | exact ⟨i + 1,⟨by omega,he⟩,by omega,zAO (zAA rfl (zAA rfl (zAA rfl (zAA rfl zAa)))) zAN rfl rfl⟩
        | omega
    · have hbt : envB E i s = true:=by rw [hbB];simp [hc]
      rw [hbt] at he
      simp only [Bool.not_true,Bool.false_and] at he
      rw [he]
      generalize zDe s.name = na at *
      generalize conF s.name = co at *
      clear hbB
      cases na <;> cases co
      all_goals skip
      repeat' first | apply en_n|apply zAH|apply zAB|apply zAF|apply w0|(apply k1u (hd:=rfl);exact rfl;exact rfl)|(apply k0u (hd:=rfl);exact rfl;exact rfl)|(apply zA5;exact rfl;exact rfl;first|assumption|omega)|(apply zB7;exact rfl;exact rfl;first|assumption|omega)|(refine zAV zJ7 hnm (zAX rfl zAG))|(refine zAV zJ8 hcn (zAX rfl zAG))|(refine zAV zCK hck (zAX rfl zAG))|(apply aJ (hd:=rfl);(first|exact zAk rfl|exact Co_bb rfl rfl rfl|exact Co_nn rfl);exact rfl;(with_reducible exact zCL);assumption;omega;exact fun _=>rfl)|(apply zA4 (hd:=rfl) (hro:=rfl);(with_reducible exact zMe))|apply ay (hd:=rfl)|exact zAE rfl|exact zAC rfl|(apply zAf;exact rfl;(with_reducible exact zFp);exact rfl)|exact zBr rfl|exact zAi rfl rfl|exact zAh rfl rfl|exact zCv rfl|(apply zAR;exact rfl;(with_reducible first|exact fg_0|exact fg_1))|(apply zAU;exact rfl;(with_reducible first|exact zAn|exact zAv);exact rfl;exact rfl)|exact zGA rfl|(apply w1;exact rfl;exact rfl)|(refine w0' ?_)|(apply zAx;exact rfl;exact rfl;exact rfl;(with_reducible exact zFp);exact rfl;exact rfl;exact rfl;exact rfl)|(apply zAK;exact rfl)|apply zAI|apply zAP|apply zAM|apply en_r|apply eb_r|apply zAJ|(apply res1;exact rfl)
      all_goals rfl
  · have hli : ¬ (i : Int) < (E.length : Int):=by omega
    have : envF E = true:=by rw [he,List.drop_of_length_le hge];rfl
    rw [this]
    repeat' first | apply en_n|apply zAH|apply zAB|apply zAF|apply w0|(apply zBq;exact rfl;exact rfl;first|assumption|omega)|apply ay (hd:=rfl)|exact zAC rfl|(apply zAQ;exact rfl)|apply zAM|apply zAt|apply en_e|apply eb_e|apply zAJ|(apply res1;exact rfl)
    all_goals rfl
end Go.Proofs.YtblomnkamngnbaaGreatDoor
