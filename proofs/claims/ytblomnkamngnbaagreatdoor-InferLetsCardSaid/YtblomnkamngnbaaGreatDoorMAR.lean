/- Texts of this claim, merged: InfC. -/
import Derived.Test.YtblomnkamngnbaaGreatDoorMAD
import Derived.Test.YtblomnkamngnbaaGreatDoorMAQ
namespace Go.Proofs.YtblomnkamngnbaaGreatDoor
open Go.Sx
attribute [local irreducible] zAO Program.underlying Ylds zA3 alex zBY zBN awp zAm zBT zBe zAx zBA zBP zA2 zBR zBX zBa zBq zBI VCall
theorem zOT (L : List Nd) (hL : L.length ≤ 2000000) (hne : L ≠ []) : zAm Tryz.prog 55 [zAc L] (zAc L):=by
  refine zAd Tryz.func55 rfl Tryz.ntmps55 Tryz.results55 rfl ?_
  intro wb St0
  repeat' first | apply en_n|apply zAH|apply zAC|apply zAF|apply w0|(apply zOM;exact rfl;exact rfl;exact (by simpa using hne);with_reducible exact zA7)|(apply zTH (hd:=rfl) (hro:=rfl);exact zBl;exact zAa;exact zDr;exact rfl)|(apply aApp (hd:=rfl) (hro:=rfl);exact rfl;exact rfl;(first|exact zAn rfl|exact Co_bb rfl rfl rfl|exact Co_nn rfl);(first|exact rfl|(simp;done));exact rfl;(with_reducible exact zBl);(with_reducible exact zAa);(with_reducible exact zE1);(with_reducible exact zDi);(first|exact zCc (fun _=>rfl)|exact zCP rfl))|apply ay (hd:=rfl)|exact zAE rfl|exact zAY rfl|exact zAj rfl|(apply zAU;exact rfl)|apply zAT|apply zAN|apply zAP
  · simp only [List.length_map];omega
  · exact ⟨_,_,_,rfl,by simp,by rw [List.take_of_length_le (by simp)];rfl⟩
theorem zTN (t : List Nd) (hL : t.length ≤ 2000000) (hc : ckT t ≠ 0) : zAm Tryz.prog 33 [zAc t] (.tup [.slice [],.slice []]):=by
  refine zAd Tryz.func33 rfl Tryz.ntmps33 Tryz.results33 rfl ?_
  intro wb St0
  repeat' first | apply en_n|apply zAH|apply zAC|apply zAF|apply w0|(apply zCT;exact rfl;exact rfl;first|assumption|omega)|(apply zAX (hb:=zCR) (hc:=zCb t hL);exact zAZ rfl zAG)|apply ay (hd:=rfl)|exact zAE rfl|exact zAY rfl|(apply zAQ;exact rfl)|apply zAN|apply en_r|apply zAP
  exact ⟨Or.inl rfl,Or.inl rfl⟩
set_option maxHeartbeats 2000000 in
theorem zTM (T : Tr) (hw : T.wf) (hr : ∀ n ∈ T.fl,zCg n = true) (hL : T.sz ≤ 4000) : zAm Tryz.prog 33 [zAc T.fl] (.tup [zGl (zBz T).1,zAc (zBz T).2]):=by
  have hck : ckT T.fl = 0:=by
    rw [ckT,if_pos]
    simp only [okT,Bool.and_eq_true,decide_eq_true_eq,List.all_eq_true]
    exact ⟨⟨by rw [Tr.fl_len];exact hL,zD8.2 ⟨T,rfl,hw⟩⟩,hr⟩
  have hc:=zCb T.fl (by rw [Tr.fl_len];omega)
  rw [hck] at hc
  refine zAd Tryz.func33 rfl Tryz.ntmps33 Tryz.results33 rfl ?_
  intro wb St0
  repeat' first | apply en_n|apply zAH|apply zAC|apply zAF|apply w0|(apply zBm;exact rfl;exact rfl;first|assumption|omega)|(apply zAX (hb:=zCR) (hc:=hc);exact zAZ rfl zAG)|apply ay (hd:=rfl)|exact zAE rfl|exact zAY rfl|(apply zAU;exact rfl)|apply zAJ|apply zAT
  refine zCO 4 false 23 1 rfl rfl ?_
  refine zAs (α:=List (List Nd) × Tr) (fun p=>p.2.wf ∧ (∀ n ∈ p.2.fl,zCg n = true) ∧ p.2.sz ≤ 4000 ∧ p.1 ++ (zBz p.2).1 = (zBz T).1 ∧ (zBz p.2).2 = (zBz T).2) (fun p=>[(0,.d (zAc p.2.fl)),(4,.buf 0 (p.1.map zAc).length)]) (fun p=>[.buf false 23 1 (p.1.map zAc)]) (fun p=>p.2.sz) ([],T) ⟨hw,hr,hL,rfl,rfl⟩
    (zAL (zAA rfl (zBs rfl rfl zAW)) (zAl rfl rfl rfl zAK) rfl rfl) ?_
  rintro ⟨A,t⟩ ⟨h1,h2,h3,h4,h5⟩
  dsimp only at h1 h2 h3 h4 h5 ⊢
  match t,h1,h2,h3,h4,h5 with
  | .mk x ks,h1,h2,h3,h4,h5 =>
    have hx:=(At.top h1).here
    by_cases ht : x.text = arrT
    · obtain ⟨a,b,rfl⟩:=zKj h2 h1 ht
      rw [zEm ht] at h4 h5
      dsimp only at h4 h5
      have hat:=At.top h1
      have hk0:=hat.kids_get (i:=0) (by simp)
      have hk1:=hat.kids_get (i:=1) (by simp)
      have e0 : kidAt 0 [a,b] 0 = 1:=zCM 0 _
      have e1 : kidAt 0 [a,b] 1 = 1 + a.sz:=by rw [zDA (k:=a) rfl,e0]
      rw [e0] at hk0
      rw [e1] at hk1
      have hkid:=zCm (Tr.mk x [a,b]).fl 0 (by rw [Tr.fl_len];omega)
      have hfa : (Tr.mk x [a,b]).fl = x :: (a.fl ++ b.fl):=by rw [Tr.fl,flL,flL,flL,List.append_nil]
      have hla:=Tr.fl_len a
      have hXa : ((Tr.mk x [a,b]).fl.take (((1 + a.sz : Nat) : Int)).toNat).drop (((1 : Nat) : Int)).toNat = a.fl:=by
        rw [hfa,Int.toNat_natCast,Int.toNat_natCast,Nat.add_comm,List.take_succ_cons,List.drop_succ_cons,List.drop_zero, ← hla,List.take_left]
      have hXb : (Tr.mk x [a,b]).fl.drop (((1 + a.sz : Nat) : Int)).toNat = b.fl:=by
        rw [hfa,Int.toNat_natCast,Nat.add_comm,List.drop_succ_cons, ← hla,List.drop_left]
      have hsz : (Tr.mk x [a,b]).sz = a.sz + b.sz + 1:=by rw [Tr.sz,szL,szL,szL];omega
      have hpa:=zBO a
      have hpb:=zBO b
      have hcl:=zOT a.fl (by omega) (fun h=>by rw [h] at hla;simp at hla;omega)
      rw [← hXa] at hcl
      have hw2 : b.wf:=(zCK.1 (by rw [Tr.wf] at h1;exact h1.2)) b (by simp)
      have hr2:=(zKb h2).2 b (by simp)
      have hpl:=(zHQ _ T (Nat.le_refl _)).1
      have hAl : A.length ≤ 4000:=by
        have:=congrArg List.length h4
        rw [List.length_append] at this;omega
      have h0 : (0 : Int) < ((Tr.mk x [a,b]).fl.length : Int):=by rw [Tr.fl_len];omega
      have hl : ((Tr.mk x [a,b]).fl.length : Int) = ((a.sz + b.sz + 1 : Nat) : Int):=by rw [Tr.fl_len,hsz]
      have hfin : ∃ y : List (List Nd) × Tr,(y.2.wf ∧ (∀ n ∈ y.2.fl,zCg n = true) ∧ y.2.sz ≤ 4000 ∧ y.1 ++ (zBz y.2).1 = (zBz T).1 ∧ (zBz y.2).2 = (zBz T).2) ∧ y.2.sz < (Tr.mk x [a,b]).sz ∧ y = (A ++ [a.fl],b):=⟨_,⟨hw2,hr2,by show b.sz ≤ _;omega,by rw [← h4];simp,h5⟩,by show b.sz < _;omega,rfl⟩
      clear h1 h2 h4 h5 hat hfa hw2 hr2 hw hr hpl hck hc e0 e1 hL hsz h3
      rw [show arrT = [45,62] from rfl] at ht
      generalize (Tr.mk x [a,b]).fl = t at *
      generalize zBn t ((0 : Nat) : Int) = KK at *
      have hkid : zAm Tryz.prog 54 [zAc t,i64 0] (zBv KK):=hkid
      skip
      repeat' first | apply en_n|apply zAH|apply zAC|apply zAF|apply w0|(apply zT0;exact rfl;exact rfl;assumption)|(refine zAX zCj hkid (zAZ rfl (zAZ rfl zAG)))|(refine zAX zKW hcl (zAZ rfl zAG))|(refine zDF (by kernel_rfl) ?_;apply aApp (id:=0) (hd:=rfl) (hro:=rfl);exact rfl;exact rfl;(first|exact zAn rfl|exact Co_bb rfl rfl rfl|exact Co_nn rfl);(first|exact rfl|exact (by simp));exact rfl;(with_reducible exact zEE);(with_reducible exact zCf);(with_reducible exact zRz);(with_reducible exact zRG);(first|exact zCc (fun _=>rfl)|exact zCP rfl))|(apply aJ (hd:=rfl);(first|exact zAn rfl|exact Co_bb rfl rfl rfl|exact Co_nn rfl);exact rfl;(with_reducible first|exact zAa|exact zBD);assumption;omega;exact fun _=>rfl)|apply ay (hd:=rfl)|exact zAE rfl|exact zAD rfl|(apply zA5;exact rfl;(with_reducible exact fn_1))|(apply zAi;exact rfl;(with_reducible first|exact zAz|exact zA4))|exact zAt rfl|exact zAj rfl|(apply Y_sl;(first|exact zAn rfl|exact Co_bb rfl rfl rfl|exact Co_nn rfl);(with_reducible exact zAa);exact rfl;exact rfl;exact fun _=>rfl)|(apply zV6;(first|exact zAn rfl|exact Co_bb rfl rfl rfl|exact Co_nn rfl);(with_reducible exact zAa);exact rfl;exact fun _=>rfl)|(apply zCD;(with_reducible exact zEE);(with_reducible exact zCf);(with_reducible exact zGX);exact rfl;exact rfl;(first|exact zAZ rfl zAG|exact zCo rfl rfl rfl zAG|exact zCs rfl zAG);exact rfl)|(apply zAQ;exact rfl)|apply zAJ|apply zAT|refine zBQ (by kernel_rfl) (by kernel_rfl) ?_|apply eb_n
      · omega
      · simp only [List.length_map,List.length_cons,List.length_nil];omega
      · omega
      · obtain ⟨y,hy1,hy2,rfl⟩:=hfin
        exact ⟨_,hy1,hy2,zAL (Le_d rfl (by rw [hXb];rfl) (zBs rfl (by simp) zAW)) (zAl rfl rfl (by rw [hXa,List.map_append];rfl) zAK) rfl rfl⟩
    · rw [zFX ht] at h4 h5
      rw [List.append_nil] at h4
      dsimp only at h4 h5
      have hfl : (Tr.mk x ks).fl ≠ []:=by rw [Tr.fl];simp
      have hlen : (Tr.mk x ks).fl.length ≤ 2000000:=by rw [Tr.fl_len];omega
      have hcl:=zOT _ hlen hfl
      have h0 : (0 : Int) < ((Tr.mk x ks).fl.length : Int):=by rw [Tr.fl_len];have:=zBO (Tr.mk x ks);omega
      clear h1 h2 h3 hfl
      rw [← h4, ← h5]
      rw [show arrT = [45,62] from rfl] at ht
      generalize (Tr.mk x ks).fl = t at *
      skip
      repeat' first | apply en_n|apply zAH|apply zAC|apply zAF|apply w0|(apply Y_eqsF;exact rfl;exact rfl;assumption)|(refine zAX zKW hcl (zAZ rfl zAG))|(apply aJ (hd:=rfl);(first|exact zAn rfl|exact Co_bb rfl rfl rfl|exact Co_nn rfl);exact rfl;(with_reducible exact zAa);assumption;omega;exact fun _=>rfl)|apply ay (hd:=rfl)|exact zAE rfl|exact zAD rfl|(apply zA5;exact rfl;(with_reducible exact fn_1))|(apply zAi;exact rfl;(with_reducible exact zA4))|exact zAt rfl|exact zAj rfl|(apply zAU;exact rfl)|apply zAN|apply zAu|apply en_e|apply eb_e|apply zAP|(apply zVF;exact rfl;exact rfl;(first|exact rfl|(simp;done));exact rfl)
      all_goals rfl
theorem zFt (t : List Nd) (hL : t.length ≤ 2000000) : zAm Tryz.prog 33 [zAc t] (.tup [zGl (zBp t).1,zAc (zBp t).2]):=by
  by_cases hc : ckT t = 0
  · obtain ⟨T,rfl,hw,hr,hs⟩:=zKi hc
    rw [zE6 hw hc];exact zTM T hw hr hs
  · rw [zBp,if_neg hc];exact zTN t hL hc
end Go.Proofs.YtblomnkamngnbaaGreatDoor
