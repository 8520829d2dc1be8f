/- Texts of this claim, merged: InfC. -/
import Derived.Test.YtblomnkamngnbaaGreatDoorMAH
import Derived.Test.YtblomnkamngnbaaGreatDoorMAP
namespace Go.Proofs.YtblomnkamngnbaaGreatDoor
open Go.Sx
attribute [local irreducible] zAT Program.underlying Ylds zBA alex zBe zBP awp zAj zBZ zBk zA2 zBH zBR zA8 zBV zBb zBf zBu zBO VCall
theorem zNo (L : List Nd) (hL : L.length ≤ 2000000) (hne : L ≠ []) : zAj Tryz.prog 55 [zAc L] (zAc L):=by
  refine zAd Tryz.func55 rfl Tryz.ntmps55 Tryz.results55 rfl ?_
  intro wb St0
  repeat' first | apply en_n|apply zAH|apply zAB|apply zAF|apply w0|(apply zNh;exact rfl;exact rfl;exact (by simpa using hne);with_reducible exact zA0)|(apply zMY (hd:=rfl) (hro:=rfl);exact zBd;exact zAW;exact zDQ;exact rfl)|(apply aApp (hd:=rfl) (hro:=rfl);exact rfl;exact rfl;(first|exact zAk rfl|exact Co_bb rfl rfl rfl|exact Co_nn rfl);(first|exact rfl|(simp;done));exact rfl;(with_reducible exact zBd);(with_reducible exact zAW);(with_reducible exact zER);(with_reducible exact zDP);(first|exact zCF (fun _=>rfl)|exact zCE rfl))|apply ay (hd:=rfl)|exact zAE rfl|exact zAb rfl|exact zAm rfl|(apply zAQ;exact rfl)|apply zAP|apply zAM|apply zAJ
  · simp only [List.length_map];omega
  · exact ⟨_,_,_,rfl,by simp,by rw [List.take_of_length_le (by simp)];rfl⟩
theorem zSI (t : List Nd) (hL : t.length ≤ 2000000) (hc : ckT t ≠ 0) : zAj Tryz.prog 33 [zAc t] (.tup [.slice [],.slice []]):=by
  refine zAd Tryz.func33 rfl Tryz.ntmps33 Tryz.results33 rfl ?_
  intro wb St0
  repeat' first | apply en_n|apply zAH|apply zAB|apply zAF|apply w0|(apply zB7;exact rfl;exact rfl;first|assumption|omega)|(apply zAV (hb:=zCK) (hc:=zCR t hL);exact zAX rfl zAG)|apply ay (hd:=rfl)|exact zAE rfl|exact zAb rfl|(apply zAK;exact rfl)|apply zAM|apply en_r|apply zAJ
  exact ⟨Or.inl rfl,Or.inl rfl⟩
set_option maxHeartbeats 2000000 in
theorem zSH (T : Tr) (hw : T.wf) (hr : ∀ n ∈ T.fl,zBT n = true) (hL : T.sz ≤ 4000) : zAj Tryz.prog 33 [zAc T.fl] (.tup [zFr (zBl T).1,zAc (zBl T).2]):=by
  have hck : ckT T.fl = 0:=by
    rw [ckT,if_pos]
    simp only [okT,Bool.and_eq_true,decide_eq_true_eq,List.all_eq_true]
    exact ⟨⟨by rw [Tr.fl_len];exact hL,zFY.2 ⟨T,rfl,hw⟩⟩,hr⟩
  have hc:=zCR T.fl (by rw [Tr.fl_len];omega)
  rw [hck] at hc
  refine zAd Tryz.func33 rfl Tryz.ntmps33 Tryz.results33 rfl ?_
  intro wb St0
  repeat' first | apply en_n|apply zAH|apply zAB|apply zAF|apply w0|(apply zBU;exact rfl;exact rfl;first|assumption|omega)|(apply zAV (hb:=zCK) (hc:=hc);exact zAX rfl zAG)|apply ay (hd:=rfl)|exact zAE rfl|exact zAb rfl|(apply zAQ;exact rfl)|apply zAI|apply zAP
  refine zCI 4 false 23 1 rfl rfl ?_
  refine zAr (α:=List (List Nd) × Tr) (fun p=>p.2.wf ∧ (∀ n ∈ p.2.fl,zBT n = true) ∧ p.2.sz ≤ 4000 ∧ p.1 ++ (zBl p.2).1 = (zBl T).1 ∧ (zBl p.2).2 = (zBl T).2) (fun p=>[(0,.d (zAc p.2.fl)),(4,.buf 0 (p.1.map zAc).length)]) (fun p=>[.buf false 23 1 (p.1.map zAc)]) (fun p=>p.2.sz) ([],T) ⟨hw,hr,hL,rfl,rfl⟩
    (zAO (zAA rfl (zBt rfl rfl zAa)) (zAu rfl rfl rfl zAN) rfl rfl) ?_
  rintro ⟨A,t⟩ ⟨h1,h2,h3,h4,h5⟩
  dsimp only at h1 h2 h3 h4 h5 ⊢
  match t,h1,h2,h3,h4,h5 with
  | .mk x ks,h1,h2,h3,h4,h5 =>
    have hx:=(At.top h1).here
    by_cases ht : x.text = arrT
    · obtain ⟨a,b,rfl⟩:=zKK h2 h1 ht
      rw [zDy ht] at h4 h5
      dsimp only at h4 h5
      have hat:=At.top h1
      have hk0:=hat.kids_get (i:=0) (by simp)
      have hk1:=hat.kids_get (i:=1) (by simp)
      have e0 : kidAt 0 [a,b] 0 = 1:=zCH 0 _
      have e1 : kidAt 0 [a,b] 1 = 1 + a.sz:=by rw [zC0 (k:=a) rfl,e0]
      rw [e0] at hk0
      rw [e1] at hk1
      have hkid:=zCd (Tr.mk x [a,b]).fl 0 (by rw [Tr.fl_len];omega)
      have hfa : (Tr.mk x [a,b]).fl = x :: (a.fl ++ b.fl):=by rw [Tr.fl,flL,flL,flL,List.append_nil]
      have hla:=Tr.fl_len a
      have hXa : ((Tr.mk x [a,b]).fl.take (((1 + a.sz : Nat) : Int)).toNat).drop (((1 : Nat) : Int)).toNat = a.fl:=by
        rw [hfa,Int.toNat_natCast,Int.toNat_natCast,Nat.add_comm,List.take_succ_cons,List.drop_succ_cons,List.drop_zero, ← hla,List.take_left]
      have hXb : (Tr.mk x [a,b]).fl.drop (((1 + a.sz : Nat) : Int)).toNat = b.fl:=by
        rw [hfa,Int.toNat_natCast,Nat.add_comm,List.drop_succ_cons, ← hla,List.drop_left]
      have hsz : (Tr.mk x [a,b]).sz = a.sz + b.sz + 1:=by rw [Tr.sz,szL,szL,szL];omega
      have hpa:=zBS a
      have hpb:=zBS b
      have hcl:=zNo a.fl (by omega) (fun h=>by rw [h] at hla;simp at hla;omega)
      rw [← hXa] at hcl
      have hw2 : b.wf:=(zCW.1 (by rw [Tr.wf] at h1;exact h1.2)) b (by simp)
      have hr2:=(zHo h2).2 b (by simp)
      have hpl:=(zFd _ T (Nat.le_refl _)).1
      have hAl : A.length ≤ 4000:=by
        have:=congrArg List.length h4
        rw [List.length_append] at this;omega
      have h0 : (0 : Int) < ((Tr.mk x [a,b]).fl.length : Int):=by rw [Tr.fl_len];omega
      have hl : ((Tr.mk x [a,b]).fl.length : Int) = ((a.sz + b.sz + 1 : Nat) : Int):=by rw [Tr.fl_len,hsz]
      have hfin : ∃ y : List (List Nd) × Tr,(y.2.wf ∧ (∀ n ∈ y.2.fl,zBT n = true) ∧ y.2.sz ≤ 4000 ∧ y.1 ++ (zBl y.2).1 = (zBl T).1 ∧ (zBl y.2).2 = (zBl T).2) ∧ y.2.sz < (Tr.mk x [a,b]).sz ∧ y = (A ++ [a.fl],b):=⟨_,⟨hw2,hr2,by show b.sz ≤ _;omega,by rw [← h4];simp,h5⟩,by show b.sz < _;omega,rfl⟩
      clear h1 h2 h4 h5 hat hfa hw2 hr2 hw hr hpl hck hc e0 e1 hL hsz h3
      rw [show arrT = [45,62] from rfl] at ht
      generalize (Tr.mk x [a,b]).fl = t at *
      generalize zBX t ((0 : Nat) : Int) = KK at *
      have hkid : zAj Tryz.prog 54 [zAc t,i64 0] (zBm KK):=hkid
      skip
      repeat' first | apply en_n|apply zAH|apply zAB|apply zAF|apply w0|(apply Y_eqsT;exact rfl;exact rfl;assumption)|(refine zAV zCY hkid (zAX rfl (zAX rfl zAG)))|(refine zAV zKE hcl (zAX rfl zAG))|(refine zDC (by kernel_rfl) ?_;apply aApp (id:=0) (hd:=rfl) (hro:=rfl);exact rfl;exact rfl;(first|exact zAk rfl|exact Co_bb rfl rfl rfl|exact Co_nn rfl);(first|exact rfl|exact (by simp));exact rfl;(with_reducible exact zD1);(with_reducible exact zCS);(with_reducible exact zMf);(with_reducible exact zLg);(first|exact zCF (fun _=>rfl)|exact zCE rfl))|(apply aJ (hd:=rfl);(first|exact zAk rfl|exact Co_bb rfl rfl rfl|exact Co_nn rfl);exact rfl;(with_reducible first|exact zAW|exact zA7);assumption;omega;exact fun _=>rfl)|apply ay (hd:=rfl)|exact zAE rfl|exact zAC rfl|(apply zAy;exact rfl;(with_reducible exact fn_1))|(apply zAg;exact rfl;(with_reducible first|exact zAs|exact zAv))|exact zAw rfl|exact zAm rfl|(apply Y_sl;(first|exact zAk rfl|exact Co_bb rfl rfl rfl|exact Co_nn rfl);(with_reducible exact zAW);exact rfl;exact rfl;exact fun _=>rfl)|(apply zU5;(first|exact zAk rfl|exact Co_bb rfl rfl rfl|exact Co_nn rfl);(with_reducible exact zAW);exact rfl;exact fun _=>rfl)|(apply zCC;(with_reducible exact zD1);(with_reducible exact zCS);(with_reducible exact zHb);exact rfl;exact rfl;(first|exact zAX rfl zAG|exact zC4 rfl rfl rfl zAG|exact zDG rfl zAG);exact rfl)|(apply zAK;exact rfl)|apply zAI|apply zAP|refine zA6 (by kernel_rfl) (by kernel_rfl) ?_|apply eb_n
      · omega
      · simp only [List.length_map,List.length_cons,List.length_nil];omega
      · omega
      · obtain ⟨y,hy1,hy2,rfl⟩:=hfin
        exact ⟨_,hy1,hy2,zAO (Le_d rfl (by rw [hXb];rfl) (zBt rfl (by simp) zAa)) (zAu rfl rfl (by rw [hXa,List.map_append];rfl) zAN) rfl rfl⟩
    · rw [zEa ht] at h4 h5
      rw [List.append_nil] at h4
      dsimp only at h4 h5
      have hfl : (Tr.mk x ks).fl ≠ []:=by rw [Tr.fl];simp
      have hlen : (Tr.mk x ks).fl.length ≤ 2000000:=by rw [Tr.fl_len];omega
      have hcl:=zNo _ hlen hfl
      have h0 : (0 : Int) < ((Tr.mk x ks).fl.length : Int):=by rw [Tr.fl_len];have:=zBS (Tr.mk x ks);omega
      clear h1 h2 h3 hfl
      rw [← h4, ← h5]
      rw [show arrT = [45,62] from rfl] at ht
      generalize (Tr.mk x ks).fl = t at *
      skip
      repeat' first | apply en_n|apply zAH|apply zAB|apply zAF|apply w0|(apply Y_eqsF;exact rfl;exact rfl;assumption)|(refine zAV zKE hcl (zAX rfl zAG))|(apply aJ (hd:=rfl);(first|exact zAk rfl|exact Co_bb rfl rfl rfl|exact Co_nn rfl);exact rfl;(with_reducible exact zAW);assumption;omega;exact fun _=>rfl)|apply ay (hd:=rfl)|exact zAE rfl|exact zAC rfl|(apply zAy;exact rfl;(with_reducible exact fn_1))|(apply zAg;exact rfl;(with_reducible exact zAv))|exact zAw rfl|exact zAm rfl|(apply zAQ;exact rfl)|apply zAM|apply zAt|apply en_e|apply eb_e|apply zAJ|(apply zS8;exact rfl;exact rfl;(first|exact rfl|(simp;done));exact rfl)
      all_goals rfl
theorem zFW (t : List Nd) (hL : t.length ≤ 2000000) : zAj Tryz.prog 33 [zAc t] (.tup [zFr (zCG t).1,zAc (zCG t).2]):=by
  by_cases hc : ckT t = 0
  · obtain ⟨T,rfl,hw,hr,hs⟩:=zIf hc
    rw [zD6 hw hc];exact zSH T hw hr hs
  · rw [zCG,if_neg hc];exact zSI t hL hc
end Go.Proofs.YtblomnkamngnbaaGreatDoor
