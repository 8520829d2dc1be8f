/- Texts of this claim, merged: SynB. -/
import Derived.Test.YtblomnkamngnbaaGreatDoorMAR
namespace Go.Proofs.YtblomnkamngnbaaGreatDoor
open Go.Sx
attribute [local irreducible] zAT Program.underlying Ylds zBA alex zBe zBP awp zAj zBZ zBk zA2 zBH zBR zA8 zBV zBb zBf zBu zBO
theorem zSU {L : List Nd} {n : Nat} {x : Nd} {ks : List Tr} (h : At L n (.mk x ks)) (h8 : x.kind = 8) (hc : cntK x.kind x.kids = true) : ∃ y,L[n + 1]? = some y ∧ y.kind = Tr.kind1 (.mk x ks):=by
  rw [cntK,if_neg (by omega),if_pos (by omega)] at hc
  have hk:=h.kidn
  have hc:=of_decide_eq_true hc
  match ks,hk with
  | [],hk=>simp at hk;omega
  | k :: r,_ =>
    have h1:=(h.kid (i:=0) (k:=k) rfl).hd
    rw [zCH] at h1
    exact ⟨k.hd,h1,rfl⟩
def genE (a b : Bool) (nm : Option Bool) (kp r pat : Bool) (x : Nd) (bad : Prop) [Decidable bad] : Int :=
  if kp ≠ pat ∨ r = false then 61
  else if (a = true ∧ W x.num ≠ x.num) ∨ (a = false ∧ x.num ≠ 0) then 61
  else if (b = true ∧ 200 < x.text.length) ∨ (b = false ∧ nm = none ∧ x.text ≠ []) then 61
  else if bad then 61
  else if nm = some false then 62 else 0
theorem zPw (x : Nd) (kx : Int) (pat : Bool) (hok : okK x.kind = true) :
    zEG x kx pat = genE (numK x.kind) (decide (x.kind = 2)) (if namK x.kind = true then some (zDe x.text) else if x.kind = 4 ∨ x.kind = 24 then some (conF x.text) else none) (patK x.kind) (cntK x.kind x.kids) pat x (x.kind = 8 ∧ kx ≠ 5):=by
  obtain ⟨kind,text,num,kids⟩:=x
  dsimp only at *
  generalize hc : cntK kind kids = c
  unfold zEG genE
  dsimp only
  rw [hc,hok]
  clear hc
  generalize zDe text = a1
  generalize conF text = a2
  rcases zGO hok with rfl | rfl | rfl | rfl | rfl | rfl | rfl | rfl | rfl | rfl | rfl | rfl | rfl | rfl | rfl | rfl <;> simp [numK,namK,patK]
set_option maxHeartbeats 8000000 in
theorem zPU (L : List Nd) (n : Nat) (x y : Nd) (kx : Int) (r nr : Bool) (pat : Bool) (kd nm : D) (hx : L[n]? = some x) (hy : x.kind = 8 → r = true → L[n + 1]? = some y ∧ y.kind = kx) (hlen : n < 2000000)
    (hf : zAj Tryz.prog 126 [i64 x.kind] (.agg [bl false,bl false,nm,kd,bl true])) (hkd : VCall Tryz.prog kd [i64 x.kids] (bl r)) (hnm : VCall Tryz.prog nm [str x.text] (bl nr)) :
    zAj Tryz.prog 97 [zAc L,i64 (n : Int),bl pat] (i64 (genE false false (some nr) (patK x.kind) r pat x (x.kind = 8 ∧ kx ≠ 5))):=by
  have hp:=zFc x.kind
  have hdf:=hnm.fn
  by_cases hc : patK x.kind = pat ∧ r = true
  · obtain ⟨hc,hr⟩:=hc
    subst hr
    rw [hc] at hp ⊢
    have hl2 : x.kind = 8 → n + 1 < L.length:=fun h8=>(List.getElem?_eq_some_iff.1 (hy h8 rfl).1).1
    have hv2 : ∀ v,x.kind = 8 → L[((n : Int) + 1).toNat]? = some v → v.kind = kx:=fun v h8 hv=>by
      obtain ⟨h1,h2⟩:=hy h8 rfl
      rw [show ((n : Int) + 1).toNat = n + 1 by omega,h1] at hv
      injection hv with hv;rw [← hv];exact h2
    cases pat
    all_goals
      refine zAd Tryz.func97 rfl Tryz.ntmps97 Tryz.results97 rfl ?_
      intro wb St0
      repeat' first | apply en_n|apply zAH|apply zAB|apply zAF|apply w0|(apply k1u (hd:=rfl);exact rfl;exact rfl)|(refine zAV zFO hf (zAX rfl zAG))|(refine zAV zDU hp (zAX rfl zAG))|(refine zIo hkd rfl (zAX rfl zAG))|(refine zIo hnm rfl (zAX rfl zAG))|(refine zSp rfl hdf rfl fy_s)|(refine zQg rfl hdf rfl fy_s)|(apply zFS;exact rfl;exact rfl;with_reducible exact zGE)|(apply aJ (hd:=rfl);(first|exact zAk rfl|exact Co_bb rfl rfl rfl|exact Co_nn rfl);exact rfl;(with_reducible exact zAW);assumption;omega;exact fun _=>rfl)|(apply aI (hd:=rfl);(first|exact zAk rfl|exact Co_bb rfl rfl rfl|exact Co_nn rfl);exact rfl;(with_reducible exact zAW);exact fun _=>rfl;rotate_left;intro v hv;rotate_right)|(apply zA4 (hd:=rfl) (hro:=rfl);(with_reducible first|exact zDR|exact zAp))|apply ay (hd:=rfl)|exact zAE rfl|exact zAC rfl|(apply zAy;exact rfl;(with_reducible exact fn_0))|(apply zAg;exact rfl;(with_reducible exact zAe))|(apply zAf;exact rfl;(with_reducible exact zAY);exact rfl)|exact zC6 rfl rfl|exact zEE rfl rfl|(apply zBC;exact rfl;exact rfl)|exact zBr rfl|exact zAi rfl rfl|exact zAh rfl rfl|(apply zAR;exact rfl;(with_reducible first|exact ff_0|exact ff_1|exact ff_2|exact ff_3|exact ff_4|exact fn_0|exact fn_1|exact fn_2|exact fn_3))|(apply zAU;exact rfl;(with_reducible first|exact zSQ|exact zMp|exact zAs|exact zAe|exact zBK|exact zAv|exact zGF);exact rfl;exact rfl)|(apply w1;exact rfl;exact rfl)|(apply k1 (hd:=rfl);exact rfl;exact rfl)|(apply gD;exact rfl;exact rfl;(intro hb);rotate_left;(intro hb);rotate_right)|(refine w0' ?_)|(apply zAx;exact rfl;exact rfl;exact rfl;(with_reducible first|exact zEq|exact zAY);exact rfl;exact rfl;exact rfl;exact rfl)|(apply zAz;exact rfl;(intro hb);rotate_left;(intro hb);rotate_right)|(apply zAQ;exact rfl)|(apply zCc;exact rfl;(intro hb);rotate_left;(intro hb);rotate_right)|apply zAI|apply zAP|apply zAM|refine zA6 (by kernel_rfl) (by kernel_rfl) ?_|apply en_r|apply eb_n|apply eb_r|apply zAJ|(apply res1;exact rfl)
    all_goals try omega
    all_goals try (have:=hl2 ‹_›;omega)
    all_goals try refine zCr ?_
    all_goals first
      | (simp_all [genE];done)
      | (rename_i v hv hb'
         have:=hv2 v (by assumption) hv
         simp_all [genE];done)
      | skip
    all_goals skip
  · have hz : genE false false (some nr) (patK x.kind) r pat x (x.kind = 8 ∧ kx ≠ 5) = 61:=by
      rw [genE,if_pos]
      by_cases c : patK x.kind = pat
      · exact .inr (by cases r with
          | false=>rfl
          | true=>exact absurd ⟨c,rfl⟩ hc)
      · exact .inl c
    rw [hz]
    have hpp:=hp
    generalize patK x.kind = kp at *
    cases kp <;> cases pat <;> cases r
    all_goals first
      | exact absurd ⟨rfl,rfl⟩ hc
      | skip
    all_goals
      refine zAd Tryz.func97 rfl Tryz.ntmps97 Tryz.results97 rfl ?_
      intro wb St0
      repeat' first | apply en_n|apply zAH|apply zAB|apply zAF|apply w0|(apply k0u (hd:=rfl);exact rfl;exact rfl)|(refine zAV zFO hf (zAX rfl zAG))|(refine zAV zDU hp (zAX rfl zAG))|(refine zIo hkd rfl (zAX rfl zAG))|(apply zFS;exact rfl;exact rfl;with_reducible exact zGE)|(apply aJ (hd:=rfl);(first|exact zAk rfl|exact Co_bb rfl rfl rfl|exact Co_nn rfl);exact rfl;(with_reducible exact zAW);assumption;omega;exact fun _=>rfl)|(apply zA4 (hd:=rfl) (hro:=rfl);(with_reducible first|exact zDR|exact zAp))|apply ay (hd:=rfl)|exact zAE rfl|exact zAC rfl|(apply zAf;exact rfl;(with_reducible exact zAY);exact rfl)|exact zBr rfl|exact zAi rfl rfl|exact zAh rfl rfl|(apply zAR;exact rfl;(with_reducible first|exact ff_3|exact ff_4|exact fn_0|exact fn_3))|(apply zAU;exact rfl;(with_reducible first|exact zMp|exact zAs|exact zAe|exact zGF);exact rfl;exact rfl)|(apply w1;exact rfl;exact rfl)|(refine w0' ?_)|(apply zAx;exact rfl;exact rfl;exact rfl;(with_reducible first|exact zEq|exact zAY);exact rfl;exact rfl;exact rfl;exact rfl)|(apply zAK;exact rfl)|apply zAI|apply zAM|apply en_r|apply eb_r|apply zAJ|(apply res1;exact rfl)
    all_goals rfl
set_option maxHeartbeats 8000000 in
theorem zRY (L : List Nd) (n : Nat) (x : Nd) (a b r : Bool) (pat : Bool) (kd : D) (hx : L[n]? = some x) (h8 : x.kind ≠ 8) (hab : a = false ∨ b = false)
    (hf : zAj Tryz.prog 126 [i64 x.kind] (.agg [bl a,bl b,.val .nilFunc,kd,bl true])) (hkd : VCall Tryz.prog kd [i64 x.kids] (bl r)) :
    zAj Tryz.prog 97 [zAc L,i64 (n : Int),bl pat] (i64 (genE a b none (patK x.kind) r pat x False)):=by
  have hp:=zFc x.kind
  have hW:=zMk x.num
  have hdf : dfn (.val .nilFunc) = some false:=rfl
  by_cases hc : patK x.kind = pat ∧ r = true
  · obtain ⟨hc,hr⟩:=hc
    subst hr
    rw [hc] at hp ⊢
    cases pat <;> cases a <;> cases b
    all_goals first
      | (exfalso;rcases hab with h | h <;> cases h;done)
      | skip
    all_goals
      refine zAd Tryz.func97 rfl Tryz.ntmps97 Tryz.results97 rfl ?_
      intro wb St0
      repeat' first | apply en_n|apply zAH|apply zAB|apply zAF|apply w0|(apply k1u (hd:=rfl);exact rfl;exact rfl)|(apply zBD;exact rfl;exact rfl;first|assumption|omega)|(apply zA9;exact rfl;exact rfl;first|assumption|omega)|(apply zB7;exact rfl;exact rfl;first|assumption|omega)|(apply zDY;exact rfl;with_reducible exact ustr)|exact zGm rfl rfl|(refine zAV zFO hf (zAX rfl zAG))|(refine zAV zDU hp (zAX rfl zAG))|(refine zIo hkd rfl (zAX rfl zAG))|(refine zAV zNL hW (zAX rfl zAG))|(refine zSp rfl hdf rfl fy_s)|(refine zQg rfl hdf rfl fy_s)|(apply zFS;exact rfl;exact rfl;with_reducible exact zGE)|(apply aJ (hd:=rfl);(first|exact zAk rfl|exact Co_bb rfl rfl rfl|exact Co_nn rfl);exact rfl;(with_reducible exact zAW);assumption;omega;exact fun _=>rfl)|(apply aI (hd:=rfl);(first|exact zAk rfl|exact Co_bb rfl rfl rfl|exact Co_nn rfl);exact rfl;(with_reducible exact zAW);exact fun _=>rfl;rotate_left;intro v hv;rotate_right)|(apply zA4 (hd:=rfl) (hro:=rfl);(with_reducible first|exact zDR|exact zAp))|apply ay (hd:=rfl)|exact zAE rfl|exact zAC rfl|(apply zAy;exact rfl;(with_reducible exact fn_0))|(apply zAg;exact rfl;(with_reducible exact zAe))|(apply zAf;exact rfl;(with_reducible exact zAY);exact rfl)|exact zEp rfl rfl|exact zEE rfl rfl|(apply zBC;exact rfl;exact rfl)|exact zBr rfl|exact zAi rfl rfl|exact zAh rfl rfl|(apply zAR;exact rfl;(with_reducible first|exact ff_0|exact ff_1|exact ff_2|exact ff_3|exact ff_4|exact fn_0|exact fn_1|exact fn_2|exact fn_3))|(apply zAU;exact rfl;(with_reducible first|exact zSQ|exact zMp|exact zAs|exact zAe|exact zBK|exact zAv|exact zGF);exact rfl;exact rfl)|(apply w1;exact rfl;exact rfl)|(apply k1 (hd:=rfl);exact rfl;exact rfl)|(refine w0' ?_)|(apply zAx;exact rfl;exact rfl;exact rfl;(with_reducible first|exact zEq|exact zAY);exact rfl;exact rfl;exact rfl;exact rfl)|(apply zAz;exact rfl;(intro hb);rotate_left;(intro hb);rotate_right)|(apply zAK;exact rfl)|(apply zAQ;exact rfl)|apply zAI|apply zAP|apply zAM|refine zA6 (by kernel_rfl) (by kernel_rfl) ?_|apply en_r|apply eb_n|apply eb_r|apply zAJ|(apply res1;exact rfl)
    all_goals try (exfalso;omega)
    all_goals refine zCr ?_
    all_goals first
      | (simp_all [genE];done)
      | (simp_all [genE];omega)
      | skip
  · have hz : genE a b none (patK x.kind) r pat x False = 61:=by
      rw [genE,if_pos]
      by_cases c : patK x.kind = pat
      · exact .inr (by cases r with
          | false=>rfl
          | true=>exact absurd ⟨c,rfl⟩ hc)
      · exact .inl c
    rw [hz]
    have hpp:=hp
    generalize patK x.kind = kp at *
    cases kp <;> cases pat <;> cases r
    all_goals first
      | exact absurd ⟨rfl,rfl⟩ hc
      | skip
    all_goals
      refine zAd Tryz.func97 rfl Tryz.ntmps97 Tryz.results97 rfl ?_
      intro wb St0
      repeat' first | apply en_n|apply zAH|apply zAB|apply zAF|apply w0|(apply k0u (hd:=rfl);exact rfl;exact rfl)|(refine zAV zFO hf (zAX rfl zAG))|(refine zAV zDU hp (zAX rfl zAG))|(refine zIo hkd rfl (zAX rfl zAG))|(apply zFS;exact rfl;exact rfl;with_reducible exact zGE)|(apply aJ (hd:=rfl);(first|exact zAk rfl|exact Co_bb rfl rfl rfl|exact Co_nn rfl);exact rfl;(with_reducible exact zAW);assumption;omega;exact fun _=>rfl)|(apply zA4 (hd:=rfl) (hro:=rfl);(with_reducible first|exact zDR|exact zAp))|apply ay (hd:=rfl)|exact zAE rfl|exact zAC rfl|(apply zAf;exact rfl;(with_reducible exact zAY);exact rfl)|exact zBr rfl|exact zAi rfl rfl|exact zAh rfl rfl|(apply zAR;exact rfl;(with_reducible first|exact ff_3|exact ff_4|exact fn_0|exact fn_3))|(apply zAU;exact rfl;(with_reducible first|exact zMp|exact zAs|exact zAe|exact zGF);exact rfl;exact rfl)|(apply w1;exact rfl;exact rfl)|(refine w0' ?_)|(apply zAx;exact rfl;exact rfl;exact rfl;(with_reducible first|exact zEq|exact zAY);exact rfl;exact rfl;exact rfl;exact rfl)|(apply zAK;exact rfl)|apply zAI|apply zAM|apply en_r|apply eb_r|apply zAJ|(apply res1;exact rfl)
    all_goals rfl
theorem zTE (L : List Nd) (n : Nat) (x : Nd) (ks : List Tr) (h : At L n (.mk x ks)) (pat : Bool) (hL : L.length ≤ 2000000) :
    zAj Tryz.prog 97 [zAc L,i64 (n : Int),bl pat] (i64 (zEG x (Tr.kind1 (.mk x ks)) pat)):=by
  have hx:=h.here
  have hlen:=h.len
  have hsz:=zBS (.mk x ks)
  have hf:=zP0 x.kind
  cases hok : okK x.kind with
  | false =>
    have hp:=zFc x.kind
    rw [zRt,if_neg (by rw [hok];decide)] at hf
    have e : zEG x (Tr.kind1 (.mk x ks)) pat = 61:=by rw [zEG,if_pos (.inl hok)]
    rw [e]
    refine zAd Tryz.func97 rfl Tryz.ntmps97 Tryz.results97 rfl ?_
    intro wb St0
    repeat' first | apply en_n|apply zAH|apply zAB|apply zAF|apply w0|(apply k0u (hd:=rfl);exact rfl;exact rfl)|(refine zAV zFO hf (zAX rfl zAG))|(apply aJ (hd:=rfl);(first|exact zAk rfl|exact Co_bb rfl rfl rfl|exact Co_nn rfl);exact rfl;(with_reducible exact zAW);assumption;omega;exact fun _=>rfl)|(apply zA4 (hd:=rfl) (hro:=rfl);(with_reducible first|exact zDR|exact zAp))|apply ay (hd:=rfl)|exact zAE rfl|exact zAC rfl|(apply zAf;exact rfl;(with_reducible exact zAY);exact rfl)|exact zBr rfl|exact zAi rfl rfl|(apply zAR;exact rfl;(with_reducible first|exact ff_4|exact fn_0))|(apply zAU;exact rfl;(with_reducible first|exact zAe|exact zGF);exact rfl;exact rfl)|(refine w0' ?_)|(apply zAx;exact rfl;exact rfl;exact rfl;(with_reducible first|exact zEq|exact zAY);exact rfl;exact rfl;exact rfl;exact rfl)|(apply zAK;exact rfl)|apply zAI|apply zAM|apply en_r|apply eb_r|apply zAJ|(apply res1;exact rfl)
    all_goals rfl
  | true =>
    have hkd:=zPc x.kind x.kids hok
    rw [zRt,if_pos hok] at hf
    rw [zPw x _ pat hok]
    by_cases hn : namK x.kind = true
    · have ha : numK x.kind = false:=by
        have:=of_decide_eq_true hn;rw [numK,decide_eq_false_iff_not];omega
      have hb : decide (x.kind = 2) = false:=by
        have:=of_decide_eq_true hn;rw [decide_eq_false_iff_not];omega
      rw [if_pos hn,ha,hb]
      rw [ha,hb,zNB,if_pos hn] at hf
      obtain ⟨y,hy⟩ : ∃ y : Nd,(x.kind = 8 → cntK x.kind x.kids = true → L[n + 1]? = some y ∧ y.kind = Tr.kind1 (.mk x ks)):=by
        by_cases hc : x.kind = 8 ∧ cntK x.kind x.kids = true
        · obtain ⟨y,hy⟩:=zSU h hc.1 hc.2
          exact ⟨y,fun _ _=>hy⟩
        · exact ⟨x,fun a b=>absurd ⟨a,b⟩ hc⟩
      exact zPU L n x y _ _ _ pat _ _ hx hy (by omega) hf hkd ⟨_,_,rfl,zJ7,zMv x.text⟩
    · by_cases hn2 : x.kind = 4 ∨ x.kind = 24
      · have ha : numK x.kind = false:=by rw [numK,decide_eq_false_iff_not];omega
        have hb : decide (x.kind = 2) = false:=by rw [decide_eq_false_iff_not];omega
        rw [if_neg hn,if_pos hn2,ha,hb]
        rw [ha,hb,zNB,if_neg hn,if_pos hn2] at hf
        exact zPU L n x x _ _ _ pat _ _ hx (fun h8=>by omega) (by omega) hf hkd ⟨_,_,rfl,zJ8,zL6 x.text⟩
      · have h8 : x.kind ≠ 8:=fun c=>hn (by rw [namK,decide_eq_true_eq];omega)
        rw [if_neg hn,if_neg hn2]
        rw [zNB,if_neg hn,if_neg hn2] at hf
        have e : genE (numK x.kind) (decide (x.kind = 2)) none (patK x.kind) (cntK x.kind x.kids) pat x (x.kind = 8 ∧ Tr.kind1 (.mk x ks) ≠ 5) = genE (numK x.kind) (decide (x.kind = 2)) none (patK x.kind) (cntK x.kind x.kids) pat x False:=by
          simp [genE,h8]
        rw [e]
        refine zRY L n x _ _ _ pat _ hx h8 ?_ hf hkd
        by_cases c : x.kind = 2
        · exact .inl (by rw [numK,decide_eq_false_iff_not];omega)
        · exact .inr (decide_eq_false c)
end Go.Proofs.YtblomnkamngnbaaGreatDoor
