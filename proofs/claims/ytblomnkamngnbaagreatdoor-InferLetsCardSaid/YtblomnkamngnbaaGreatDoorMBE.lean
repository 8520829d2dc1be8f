/- Texts of this claim, merged: InfD. -/
import Derived.Test.YtblomnkamngnbaaGreatDoorMAR
import Derived.Test.YtblomnkamngnbaaGreatDoorMBA
namespace Go.Proofs.YtblomnkamngnbaaGreatDoor
open Go.Sx
theorem zO9 {E : List Sg} {i : Nat} {s : Sg} (h : E[i]? = some s) : zKe E i (E.drop i) = (!envB E i s && zKe E (i + 1) (E.drop (i + 1))):=by
  obtain ⟨hi,rfl⟩:=List.getElem?_eq_some_iff.1 h
  rw [List.drop_eq_getElem_cons hi,zKe]
theorem zSS {t : List Nd} (h : ckT t = 0) : ∃ x r,(zBp t).2 = x :: r:=by
  obtain ⟨T,rfl,hw,hr,hs⟩:=zKi h
  rw [zE6 hw h]
  have key : ∀ (m : Nat) (T : Tr),T.sz ≤ m → ∃ x r,(zBz T).2 = x :: r:=by
    intro m
    induction m with
    | zero=>intro T h;have:=zBO T;omega
    | succ m ih =>
      intro T h
      match T,h with
      | .mk x [a,b],h =>
        by_cases hx : x.text = arrT
        · rw [zEm hx];exact ih b (by rw [Tr.sz,szL,szL,szL] at h;omega)
        · rw [zFX hx];exact ⟨x,_,by rw [Tr.fl]⟩
      | .mk x [],h=>exact ⟨x,_,by rw [zBz,Tr.fl];rintro _ _ _ h;cases h⟩
      | .mk x [_],h=>exact ⟨x,_,by rw [zBz,Tr.fl];rintro _ _ _ h;cases h⟩
      | .mk x (_ :: _ :: _ :: _),h=>exact ⟨x,_,by rw [zBz,Tr.fl];rintro _ _ _ h;cases h⟩
  exact key _ T (Nat.le_refl _)
attribute [local irreducible] zAO Program.underlying Ylds zA3 alex zBY zBN awp zAm zBT zBe zAx zBA zBP zA2 zBR zBX zBa zBq zBI VCall
set_option maxHeartbeats 4000000 in
theorem zGw (E : List Sg) (hE : E.length ≤ 1000000) (hT : ∀ s ∈ E,s.ty.length ≤ 1000000) : zAm Tryz.prog 10 [sigs E] (i64 (if envF E then 0 else 110)):=by
  refine zAd Tryz.func10 rfl Tryz.ntmps10 Tryz.results10 rfl ?_
  intro wb St0
  repeat' first | apply en_n|apply zAH|apply zAC|apply zAF|apply w0|apply ay (hd:=rfl)|exact zAE rfl|exact zAD rfl|(apply zAr;exact rfl;(with_reducible exact zEM))|apply zAJ
  refine zAs (α:=Nat) (fun i=>i ≤ E.length ∧ envF E = zKe E i (E.drop i)) (fun i=>[(0,.d (sigs E)),(8,.d (sigs E)),(9,.d (i64 (E.length : Int))),(10,.d (i64 (i : Int)))]) (fun _=>[]) (fun i=>E.length - i) 0 ⟨Nat.zero_le _,rfl⟩
    (zAL (zAA rfl (zAA rfl (Le_d rfl rfl (zAA rfl zAW)))) zAK rfl rfl) ?_
  rintro i ⟨hi,he⟩
  rcases Nat.lt_or_ge i E.length with hlt | hge
  · have hs : E[i]? = some E[i]:=List.getElem?_eq_getElem hlt
    have hm:=hT _ (List.getElem_mem hlt)
    generalize E[i] = s at *
    have hli : (i : Int) < (E.length : Int):=by omega
    rw [zO9 hs] at he
    have hck:=zCb s.ty (by omega)
    have hcf:=zWQ 28 (str s.name) (zAc s.ty) (fun u=>decide (u.name = s.name)) zOy (zOw s) ((E.take ((i : Nat) : Int).toNat)) (by rw [List.length_take];omega)
    have hpf:=zFt s.ty (by omega)
    have hnm:=zNb s.name
    have hcn:=zMd s.name
    have hbB : envB E i s = ((!zD1 s.name && !conF s.name) || decide (ckT s.ty ≠ 0) || (E.take ((i : Nat) : Int).toNat).any (fun x=>decide (x.name = s.name)) || (conF s.name && !conF (((zBp s.ty).2.map Nd.text).headD []))):=rfl
    by_cases hc : ckT s.ty = 0
    · obtain ⟨y,r,hy⟩:=zSS hc
      rw [hy] at hbB hpf
      simp only [List.map_cons,List.headD_cons] at hbB
      have hcn2:=zMd y.text
      rw [hc] at hbB hck
      generalize hna : zD1 s.name = na at *
      generalize hco : conF s.name = co at *
      generalize hcy : conF y.text = cy at *
      generalize hcA : ((E.take ((i : Nat) : Int).toNat).any fun x=>decide (x.name = s.name)) = cA at *
      have hy0 : (y :: r)[0]? = some y:=rfl
      clear hy hna hco hcy hcA
      cases na <;> cases co <;> cases cy <;> cases cA
      all_goals
        rw [hbB] at he
        simp only [Bool.not_false,Bool.not_true,Bool.and_true,Bool.true_and,Bool.and_false,Bool.false_and,Bool.or_true,Bool.or_false,ne_eq,not_true,decide_false] at he
      repeat' first | apply en_n|apply zAH|apply zAC|apply zAF|apply w0|(apply k1u (hd:=rfl);exact rfl;exact rfl)|(apply k0u (hd:=rfl);exact rfl;exact rfl)|(apply zBK;exact rfl;exact rfl;first|assumption|omega)|(apply zBm;exact rfl;exact rfl;first|assumption|omega)|(refine zAX zKP hnm (zAZ rfl zAG))|(refine zAX zKQ hcn (zAZ rfl zAG))|(refine zAX zKQ hcn2 (zAZ rfl zAG))|(refine zAX zCR hck (zAZ rfl zAG))|(refine zAX zFC hpf (zAZ rfl zAG))|(refine zA6 [0] [] rfl rfl zVj (hcf) rfl ?_ rfl (by decide) rfl rfl rfl rfl;(repeat (refine zAI rfl ?_));exact zAM)|(apply aJ (hd:=rfl);(first|exact zAn rfl|exact Co_bb rfl rfl rfl|exact Co_nn rfl);exact rfl;(with_reducible first|exact zCL|exact zAa);assumption;omega;exact fun _=>rfl)|(apply zBE (hd:=rfl) (hro:=rfl);(with_reducible exact zPR))|apply ay (hd:=rfl)|exact zAE rfl|exact zAD rfl|(apply zA5;exact rfl;(with_reducible exact fn_1))|(apply zAi;exact rfl;(with_reducible exact zA4))|(apply zAf;exact rfl;(with_reducible exact zIG);exact rfl)|(apply zBG;exact rfl;exact rfl)|exact zCS rfl|exact zAq rfl rfl|exact zAo rfl rfl|exact zBM rfl rfl|exact zA8 rfl|exact zC4 rfl|(apply zAS;exact rfl;(with_reducible first|exact fg_0|exact fg_1))|(apply zAV;exact rfl;(with_reducible first|exact zAg|exact zA4);exact rfl;exact rfl)|(apply zV7;(first|exact zAn rfl|exact Co_bb rfl rfl rfl|exact Co_nn rfl);(with_reducible exact zCL);exact rfl;exact fun _=>rfl)|exact zGV rfl|(apply w1;exact rfl;exact rfl)|(refine w0' ?_)|(apply zA0;exact rfl;exact rfl;exact rfl;(with_reducible exact zIG);exact rfl;exact rfl;exact rfl;exact rfl)|(apply zAQ;exact rfl)|(apply zAU;exact rfl)|apply zAJ|apply zAT|apply zAN|apply en_r|apply eb_n|apply eb_r|apply zAP|(apply res1;exact rfl)
      all_goals first
        | (rw [he];rfl)
        | exact ⟨i + 1,⟨by omega,he⟩,by omega,zAL (zAA rfl (zAA rfl (zAA rfl (zAA rfl zAW)))) zAK rfl rfl⟩
        | omega
    · have hbt : envB E i s = true:=by rw [hbB];simp [hc]
      rw [hbt] at he
      simp only [Bool.not_true,Bool.false_and] at he
      rw [he]
      generalize zD1 s.name = na at *
      generalize conF s.name = co at *
      clear hbB
      cases na <;> cases co
      all_goals skip
      repeat' first | apply en_n|apply zAH|apply zAC|apply zAF|apply w0|(apply k1u (hd:=rfl);exact rfl;exact rfl)|(apply k0u (hd:=rfl);exact rfl;exact rfl)|(apply zBK;exact rfl;exact rfl;first|assumption|omega)|(apply zCT;exact rfl;exact rfl;first|assumption|omega)|(refine zAX zKP hnm (zAZ rfl zAG))|(refine zAX zKQ hcn (zAZ rfl zAG))|(refine zAX zCR hck (zAZ rfl zAG))|(apply aJ (hd:=rfl);(first|exact zAn rfl|exact Co_bb rfl rfl rfl|exact Co_nn rfl);exact rfl;(with_reducible exact zCL);assumption;omega;exact fun _=>rfl)|(apply zBE (hd:=rfl) (hro:=rfl);(with_reducible exact zPR))|apply ay (hd:=rfl)|exact zAE rfl|exact zAD rfl|(apply zAf;exact rfl;(with_reducible exact zIG);exact rfl)|exact zCS rfl|exact zAq rfl rfl|exact zAo rfl rfl|exact zC4 rfl|(apply zAS;exact rfl;(with_reducible first|exact fg_0|exact fg_1))|(apply zAV;exact rfl;(with_reducible first|exact zAg|exact zA4);exact rfl;exact rfl)|exact zGV rfl|(apply w1;exact rfl;exact rfl)|(refine w0' ?_)|(apply zA0;exact rfl;exact rfl;exact rfl;(with_reducible exact zIG);exact rfl;exact rfl;exact rfl;exact rfl)|(apply zAQ;exact rfl)|apply zAJ|apply zAT|apply zAN|apply en_r|apply eb_r|apply zAP|(apply res1;exact rfl)
      all_goals rfl
  · have hli : ¬ (i : Int) < (E.length : Int):=by omega
    have : envF E = true:=by rw [he,List.drop_of_length_le hge];rfl
    rw [this]
    repeat' first | apply en_n|apply zAH|apply zAC|apply zAF|apply w0|(apply zCJ;exact rfl;exact rfl;first|assumption|omega)|apply ay (hd:=rfl)|exact zAD rfl|(apply zAU;exact rfl)|apply zAN|apply zAu|apply en_e|apply eb_e|apply zAP|(apply res1;exact rfl)
    all_goals rfl
end Go.Proofs.YtblomnkamngnbaaGreatDoor
